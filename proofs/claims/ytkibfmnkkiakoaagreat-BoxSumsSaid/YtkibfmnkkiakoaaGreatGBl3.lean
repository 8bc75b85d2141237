/- Part of the proof; it has the parts GBl3. -/
import Derived.Test.YtkibfmnkkiakoaaGreatFNum1
set_option maxRecDepth 100000
set_option maxHeartbeats 4000000
namespace Go.Proofs.YtkibfmnkkiakoaaGreat
open Go Go.Vc Go.Proofs
open Go.IntKind (i8 i16 i32 i64 u8 u16 u32 u64)

theorem law2_BoxSums_vc (p0 : SidesV) (p1 : SidesV) (V : View) (R : Value → View → Prop) 
 (h :
 CallV Tryz.prog 15 #[] V fun v V1 => ∃ r1 : Bool, v = .bool r1 ∧
 ((!r1) = true →
 R (.bool false) V1) ∧
 ((!r1) = false →
 CallV Tryz.prog 16 #[p0.val] V1 fun v V2 => ∃ (r2 : BoxV) (r3 : BoxV) (r4 : Bool), v = .tuple #[r2.val, r3.val, .bool r4] ∧
 CallV Tryz.prog 16 #[p1.val] V2 fun v V3 => ∃ (r5 : BoxV) (r6 : BoxV) (r7 : Bool), v = .tuple #[r5.val, r6.val, .bool r7] ∧
 ((!r4) = true →
 R (.bool true) V3) ∧
 ((!r4) = false →
 ((!r7) = true →
 R (.bool true) V3) ∧
 ((!r7) = false →
 CallV Tryz.prog 18 #[r2.val, r5.val] V3 fun v V4 => ∃ r8 : BoxV, v = r8.val ∧
 CallV Tryz.prog 19 #[r3.val, r6.val] V4 fun v V5 => ∃ r9 : BoxV, v = r9.val ∧
 CallV Tryz.prog 17 #[r8.val, r9.val] V5 fun v V6 => ∃ r10 : Bool, v = .bool r10 ∧
 (r10 = true →
 CallV Tryz.prog 20 #[r2.val, r5.val] V6 fun v V7 => ∃ r11 : BoxV, v = r11.val ∧
 CallV Tryz.prog 21 #[r3.val, r6.val] V7 fun v V8 => ∃ r12 : BoxV, v = r12.val ∧
 CallV Tryz.prog 17 #[r11.val, r12.val] V8 fun v V9 => ∃ r13 : Bool, v = .bool r13 ∧
 (r13 = true →
 CallV Tryz.prog 22 #[r2.val] V9 fun v V10 => ∃ r14 : BoxV, v = r14.val ∧
 CallV Tryz.prog 23 #[r3.val] V10 fun v V11 => ∃ r15 : BoxV, v = r15.val ∧
 CallV Tryz.prog 17 #[r14.val, r15.val] V11 fun v V12 => ∃ r16 : Bool, v = .bool r16 ∧
 (r16 = true →
 CallV Tryz.prog 24 #[r2.val] V12 fun v V13 => ∃ r17 : BoxV, v = r17.val ∧
 CallV Tryz.prog 25 #[r3.val] V13 fun v V14 => ∃ r18 : BoxV, v = r18.val ∧
 CallV Tryz.prog 17 #[r17.val, r18.val] V14 fun v V15 => ∃ r19 : Bool, v = .bool r19 ∧
 R (.bool r19) V15) ∧
 (r16 = false →
 R (.bool false) V12)) ∧
 (r13 = false →
 R (.bool false) V9)) ∧
 (r10 = false →
 R (.bool false) V6))))) :
 CallV Tryz.prog 3 #[p0.val, p1.val] V R :=
 calls_of_vc (Shp := Shp) hmixed Tryz.func3 (c := Tryz.f3.body.getD .skip) (args := [p0.val, p1.val]) (by kernel_rfl)
 (.seq (.reg [A 2 3, A 3 3, A 4 9]) (.seq (.seq (.reg [A 11 10, A 12 20]) (.cond (.seq (.reg [A 4 9]) .leaf) .leaf)) (.seq (.reg [A 2 4, A 15 10, A 13 2, A 16 0, A 17 0, A 18 0, A 5 3, A 6 3, A 5 6, A 6 6, A 7 2]) (.seq (.reg [A 3 4, A 21 10, A 19 2, A 22 0, A 23 0, A 24 0, A 8 3, A 9 3, A 8 6, A 9 6, A 10 2]) (.seq (.draw [(0, A 25 2), (1, A 26 20), (2, ⟨27, 2, true⟩), (3, A 28 2), (4, A 29 20), (5, A 30 20), (6, ⟨31, 2, true⟩), (7, A 5 4), (8, A 8 4), (10, A 6 4), (11, A 9 4), (9, A 34 10), (12, A 37 10), (13, A 38 10), (14, ⟨39, 2, true⟩), (15, A 5 4), (16, A 8 4), (18, A 6 4), (19, A 9 4), (17, A 42 10), (20, A 45 10), (21, A 46 10), (22, A 47 20), (23, ⟨48, 2, true⟩), (24, A 5 4), (26, A 6 4), (25, A 50 10), (27, A 52 10), (28, A 53 10), (29, A 54 20), (30, ⟨55, 2, true⟩), (31, A 5 4), (33, A 6 4), (32, A 57 10), (34, A 59 10), (35, A 60 10), (36, A 61 20), (37, A 62 20), (38, A 4 2)] [0, 1, 3, 7, 15, 31, 63, 127, 127, 511, 127, 127, 4095, 8191, 16383, 32767, 32767, 131071, 32767, 32767, 1048575, 2097151, 4194303, 8388607, 16777215, 33554431, 16777215, 134217727, 268435455, 536870911, 1073741823, 2147483647, 4294967295, 2147483647, 17179869183, 34359738367, 68719476735, 137438953471, 274877906943]) .leaf)))))
 (Eq.mpr (by kernel_rfl) h)

end Go.Proofs.YtkibfmnkkiakoaaGreat
