/- Part of the proof; it has the parts GBl6. -/
import Derived.Test.YtkibfmnkkiakoaaGreatFNum1
set_option maxRecDepth 100000
set_option maxHeartbeats 4000000
namespace Go.Proofs.YtkibfmnkkiakoaaGreat
open Go Go.Vc Go.Proofs
open Go.IntKind (i8 i16 i32 i64 u8 u16 u32 u64)

theorem law2_BoxInverts_vc (p0 : SidesV) (p1 : SidesV) (V : View) (R : Value → View → Prop) 
 (h :
 CallV Tryz.prog 15 #[] V fun v V1 => ∃ r1 : Bool, v = .bool r1 ∧
 ((!r1) = true →
 R (.bool false) V1) ∧
 ((!r1) = false →
 CallV Tryz.prog 16 #[p0.val] V1 fun v V2 => ∃ (r2 : BoxV) (r3 : BoxV) (r4 : Bool), v = .tuple #[r2.val, r3.val, .bool r4] ∧
 CallV Tryz.prog 16 #[p1.val] V2 fun v V3 => ∃ (r5 : BoxV) (r6 : BoxV) (r7 : Bool), v = .tuple #[r5.val, r6.val, .bool r7] ∧
 ((!r4) = true →
 R (.bool true) V3) ∧
 ((!r4) = false →
 ((!r7) = true →
 R (.bool true) V3) ∧
 ((!r7) = false →
 CallV Tryz.prog 26 #[r2.val] V3 fun v V4 => ∃ (r8 : BoxV) (r9 : Int), v = .tuple #[r8.val, .int .i64 r9] ∧
 CallV Tryz.prog 27 #[r3.val] V4 fun v V5 => ∃ (r10 : BoxV) (r11 : Int), v = .tuple #[r10.val, .int .i64 r11] ∧
 CallV Tryz.prog 28 #[r2.val, r5.val] V5 fun v V6 => ∃ (r12 : BoxV) (r13 : Int), v = .tuple #[r12.val, .int .i64 r13] ∧
 CallV Tryz.prog 29 #[r3.val, r6.val] V6 fun v V7 => ∃ (r14 : BoxV) (r15 : Int), v = .tuple #[r14.val, .int .i64 r15] ∧
 (((r9 : Int) == r11) = true →
 CallV Tryz.prog 17 #[r8.val, r10.val] V7 fun v V8 => ∃ r16 : Bool, v = .bool r16 ∧
 (r16 = true →
 (((r13 : Int) == r15) = true →
 CallV Tryz.prog 17 #[r12.val, r14.val] V8 fun v V9 => ∃ r17 : Bool, v = .bool r17 ∧
 (r17 = true →
 CallV Tryz.prog 30 #[r2.val] V9 fun v V10 => ∃ r18 : Bool, v = .bool r18 ∧
 CallV Tryz.prog 31 #[r3.val] V10 fun v V11 => ∃ r19 : Bool, v = .bool r19 ∧
 ((r18 == r19) = true →
 CallV Tryz.prog 32 #[r2.val] V11 fun v V12 => ∃ r20 : Int, v = .int .i64 r20 ∧
 CallV Tryz.prog 33 #[r3.val] V12 fun v V13 => ∃ r21 : Int, v = .int .i64 r21 ∧
 R (.bool ((r20 : Int) == r21)) V13) ∧
 ((r18 == r19) = false →
 R (.bool false) V11)) ∧
 (r17 = false →
 R (.bool false) V9)) ∧
 (((r13 : Int) == r15) = false →
 R (.bool false) V8)) ∧
 (r16 = false →
 R (.bool false) V8)) ∧
 (((r9 : Int) == r11) = false →
 R (.bool false) V7))))) :
 CallV Tryz.prog 4 #[p0.val, p1.val] V R :=
 calls_of_vc (Shp := Shp) hmixed Tryz.func4 (c := Tryz.f4.body.getD .skip) (args := [p0.val, p1.val]) (by kernel_rfl)
 (.seq (.reg [A 2 3, A 3 3, A 4 9]) (.seq (.seq (.reg [A 19 10, A 20 20]) (.cond (.seq (.reg [A 4 9]) .leaf) .leaf)) (.seq (.reg [A 2 4, A 23 10, A 21 2, A 24 0, A 25 0, A 26 0, A 5 3, A 6 3, A 5 6, A 6 6, A 7 2]) (.seq (.reg [A 3 4, A 29 10, A 27 2, A 30 0, A 31 0, A 32 0, A 8 3, A 9 3, A 8 6, A 9 6, A 10 2]) (.seq (.seq (.reg [A 33 2, A 34 20, ⟨35, 2, true⟩, A 36 2, A 37 20, A 38 20]) (.cond (.seq (.reg [A 4 9]) .leaf) .leaf)) (.seq (.reg [A 5 4, A 41 10, A 39 2, A 42 0, A 43 0, A 11 3, A 11 6, A 12 2]) (.seq (.reg [A 6 4, A 46 10, A 44 2, A 47 0, A 48 0, A 13 3, A 13 6, A 14 2]) (.seq (.reg [A 5 4, A 8 4, A 52 10, A 49 2, A 53 0, A 54 0, A 15 3, A 15 6, A 16 2]) (.seq (.reg [A 6 4, A 9 4, A 58 10, A 55 2, A 59 0, A 60 0, A 17 3, A 17 6, A 18 2]) (.seq (.draw [(0, A 61 2), (1, A 62 2), (2, A 63 0), (3, ⟨64, 2, true⟩), (4, A 11 4), (5, A 13 4), (6, A 67 10), (7, A 68 20), (8, ⟨69, 2, true⟩), (9, A 70 2), (10, A 71 2), (11, A 72 0), (12, A 73 20), (13, ⟨74, 2, true⟩), (14, A 15 4), (15, A 17 4), (16, A 77 10), (17, A 78 20), (18, ⟨79, 2, true⟩), (19, A 5 4), (21, A 6 4), (20, A 81 10), (22, A 83 10), (23, A 84 0), (24, A 85 20), (25, ⟨86, 2, true⟩), (26, A 5 4), (28, A 6 4), (27, A 88 10), (29, A 90 10), (30, A 91 0), (31, A 92 20), (32, A 4 2)] [0, 0, 3, 7, 15, 15, 63, 127, 255, 511, 511, 2047, 4095, 8191, 16383, 16383, 65535, 131071, 262143, 524287, 1048575, 524287, 4194303, 8388607, 16777215, 33554431, 67108863, 134217727, 67108863, 536870911, 1073741823, 2147483647, 4294967295]) .leaf))))))))))
 (Eq.mpr (by kernel_rfl) h)

end Go.Proofs.YtkibfmnkkiakoaaGreat
