/- Part of the proof; it has the parts GBl5. -/
import Derived.Test.YtkibfmnkkiakoaaGreatFTr1
set_option maxRecDepth 100000
set_option maxHeartbeats 4000000
namespace Go.Proofs.YtkibfmnkkiakoaaGreat
open Go Go.Vc Go.Proofs
open Go.IntKind (i8 i16 i32 i64 u8 u16 u32 u64)

theorem law2_BoxAround_vc (p0 : RatV) (p1 : RatV) (p2 : RatV) (V : View) (R : Value → View → Prop) 
 (h :
 CallV Tryz.prog 15 #[] V fun v V1 => ∃ r1 : Bool, v = .bool r1 ∧
 ((!r1) = true →
 R (.bool false) V1) ∧
 ((!r1) = false →
 CallV Tryz.prog 35 #[p0.val] V1 fun v V2 => ∃ r2 : NumV, v = r2.val ∧
 CallV Tryz.prog 35 #[p1.val] V2 fun v V3 => ∃ r3 : NumV, v = r3.val ∧
 CallV Tryz.prog 34 #[r2.val, r3.val] V3 fun v V4 => ∃ (r4 : SpV) (r5 : Int), v = .tuple #[r4.val, .int .i64 r5] ∧
 CallV Tryz.prog 37 #[p0.val] V4 fun v V5 => ∃ r6 : NumV, v = r6.val ∧
 CallV Tryz.prog 37 #[p1.val] V5 fun v V6 => ∃ r7 : NumV, v = r7.val ∧
 CallV Tryz.prog 36 #[r6.val, r7.val] V6 fun v V7 => ∃ (r8 : SpV) (r9 : Int), v = .tuple #[r8.val, .int .i64 r9] ∧
 (((r5 : Int) == r9) = true →
 CallV Tryz.prog 38 #[r4.val, r8.val] V7 fun v V8 => ∃ r10 : Bool, v = .bool r10 ∧
 (r10 = true →
 CallV Tryz.prog 35 #[p2.val] V8 fun v V9 => ∃ r11 : NumV, v = r11.val ∧
 CallV Tryz.prog 39 #[r4.val, r11.val] V9 fun v V10 => ∃ r12 : Bool, v = .bool r12 ∧
 CallV Tryz.prog 37 #[p2.val] V10 fun v V11 => ∃ r13 : NumV, v = r13.val ∧
 CallV Tryz.prog 40 #[r8.val, r13.val] V11 fun v V12 => ∃ r14 : Bool, v = .bool r14 ∧
 ((r12 == r14) = true →
 (((r5 : Int) != 0) = true →
 R (.bool true) V12) ∧
 (((r5 : Int) != 0) = false →
 CallV Tryz.prog 35 #[p0.val] V12 fun v V13 => ∃ r15 : NumV, v = r15.val ∧
 CallV Tryz.prog 39 #[r4.val, r15.val] V13 fun v V14 => ∃ r16 : Bool, v = .bool r16 ∧
 (r16 = true →
 CallV Tryz.prog 35 #[p1.val] V14 fun v V15 => ∃ r17 : NumV, v = r17.val ∧
 CallV Tryz.prog 39 #[r4.val, r17.val] V15 fun v V16 => ∃ r18 : Bool, v = .bool r18 ∧
 R (.bool r18) V16) ∧
 (r16 = false →
 R (.bool false) V14))) ∧
 ((r12 == r14) = false →
 R (.bool false) V12)) ∧
 (r10 = false →
 R (.bool false) V8)) ∧
 (((r5 : Int) == r9) = false →
 R (.bool false) V7))) :
 CallV Tryz.prog 5 #[p0.val, p1.val, p2.val] V R :=
 calls_of_vc (Shp := Shp) hmixed Tryz.func5 (c := Tryz.f5.body.getD .skip) (args := [p0.val, p1.val, p2.val]) (by kernel_rfl)
 (.seq (.reg [A 3 3, A 4 3, A 5 3, A 6 9]) (.seq (.seq (.reg [A 11 10, A 12 20]) (.cond (.seq (.reg [A 6 9]) .leaf) .leaf)) (.seq (.draw [(0, A 3 4), (2, A 4 4), (8, A 7 3), (1, A 15 10), (3, A 17 10), (4, A 18 10), (5, A 13 2), (6, A 19 0), (7, A 20 0), (9, A 7 6), (10, A 8 2)] [0, 1, 0, 7, 15, 31, 63, 63, 0, 383, 1023]) (.seq (.draw [(0, A 3 4), (2, A 4 4), (8, A 9 3), (1, A 23 10), (3, A 25 10), (4, A 26 10), (5, A 21 2), (6, A 27 0), (7, A 28 0), (9, A 9 6), (10, A 10 2)] [0, 1, 0, 7, 15, 31, 63, 63, 0, 383, 1023]) (.seq (.draw [(0, A 29 2), (1, A 30 2), (2, A 31 0), (3, ⟨32, 2, true⟩), (4, A 7 4), (5, A 9 4), (6, A 35 10), (7, A 36 20), (8, ⟨37, 2, true⟩), (9, A 7 4), (10, A 5 4), (13, A 9 4), (14, A 5 4), (11, A 40 10), (12, A 41 10), (15, A 44 10), (16, A 45 10), (17, A 46 0), (18, A 47 20), (19, ⟨48, 2, true⟩), (20, A 49 2), (21, A 50 0), (22, ⟨51, 2, true⟩), (23, A 7 4), (24, A 3 4), (25, A 54 10), (26, A 55 10), (27, ⟨56, 2, true⟩), (28, A 7 4), (29, A 4 4), (30, A 59 10), (31, A 60 10), (32, A 61 20), (33, A 62 20), (34, A 63 20), (35, A 6 2)] [0, 0, 3, 7, 15, 15, 63, 127, 255, 511, 511, 1535, 4095, 511, 511, 24575, 65535, 131071, 262143, 524287, 1048575, 2097151, 4194303, 8388607, 8388607, 25165823, 67108863, 134217727, 268435455, 268435455, 805306367, 2147483647, 4294967295, 8589934591, 17179869183, 34359738367]) .leaf)))))
 (Eq.mpr (by kernel_rfl) h)

end Go.Proofs.YtkibfmnkkiakoaaGreat
