/- Part of the proof; it has the parts GBl3. -/
import Derived.Test.YtkibfmnkkiakoaaGreatFNum1
set_option maxRecDepth 100000
set_option maxHeartbeats 4000000
namespace Go.Proofs.YtkibfmnkkiakoaaGreat
open Go Go.Vc Go.Proofs
open Go.IntKind (i8 i16 i32 i64 u8 u16 u32 u64)

theorem law2_BoxProducts_vc (p0 : SidesV) (p1 : SidesV) (V : View) (R : Value → View → Prop) 
 (h :
 CallV Tryz.prog 15 #[] V fun v V1 => ∃ r1 : Bool, v = .bool r1 ∧
 ((!r1) = true →
 R (.bool false) V1) ∧
 ((!r1) = false →
 CallV Tryz.prog 16 #[p0.val] V1 fun v V2 => ∃ (r2 : BoxV) (r3 : BoxV) (r4 : Bool), v = .tuple #[r2.val, r3.val, .bool r4] ∧
 CallV Tryz.prog 16 #[p1.val] V2 fun v V3 => ∃ (r5 : BoxV) (r6 : BoxV) (r7 : Bool), v = .tuple #[r5.val, r6.val, .bool r7] ∧
 ((!r4) = true →
 R (.bool true) V3) ∧
 ((!r4) = false →
 ((!r7) = true →
 R (.bool true) V3) ∧
 ((!r7) = false →
 CallV Tryz.prog 41 #[r2.val, r5.val] V3 fun v V4 => ∃ r8 : BoxV, v = r8.val ∧
 CallV Tryz.prog 42 #[r3.val, r6.val] V4 fun v V5 => ∃ r9 : BoxV, v = r9.val ∧
 CallV Tryz.prog 17 #[r8.val, r9.val] V5 fun v V6 => ∃ r10 : Bool, v = .bool r10 ∧
 (r10 = true →
 CallV Tryz.prog 43 #[r2.val] V6 fun v V7 => ∃ r11 : SpV, v = r11.val ∧
 CallV Tryz.prog 44 #[r3.val] V7 fun v V8 => ∃ r12 : SpV, v = r12.val ∧
 CallV Tryz.prog 38 #[r11.val, r12.val] V8 fun v V9 => ∃ r13 : Bool, v = .bool r13 ∧
 R (.bool r13) V9) ∧
 (r10 = false →
 R (.bool false) V6))))) :
 CallV Tryz.prog 6 #[p0.val, p1.val] V R :=
 calls_of_vc (Shp := Shp) hmixed Tryz.func6 (c := Tryz.f6.body.getD .skip) (args := [p0.val, p1.val]) (by kernel_rfl)
 (.seq (.reg [A 2 3, A 3 3, A 4 9]) (.seq (.seq (.reg [A 11 10, A 12 20]) (.cond (.seq (.reg [A 4 9]) .leaf) .leaf)) (.seq (.reg [A 2 4, A 15 10, A 13 2, A 16 0, A 17 0, A 18 0, A 5 3, A 6 3, A 5 6, A 6 6, A 7 2]) (.seq (.reg [A 3 4, A 21 10, A 19 2, A 22 0, A 23 0, A 24 0, A 8 3, A 9 3, A 8 6, A 9 6, A 10 2]) (.seq (.draw [(0, A 25 2), (1, A 26 20), (2, ⟨27, 2, true⟩), (3, A 28 2), (4, A 29 20), (5, A 30 20), (6, ⟨31, 2, true⟩), (7, A 5 4), (8, A 8 4), (10, A 6 4), (11, A 9 4), (9, A 34 10), (12, A 37 10), (13, A 38 10), (14, ⟨39, 2, true⟩), (15, A 5 4), (17, A 6 4), (16, A 41 10), (18, A 43 10), (19, A 44 10), (20, A 45 20), (21, A 46 20), (22, A 4 2)] [0, 1, 3, 7, 15, 31, 63, 127, 127, 511, 127, 127, 4095, 8191, 16383, 32767, 65535, 32767, 262143, 524287, 1048575, 2097151, 4194303]) .leaf)))))
 (Eq.mpr (by kernel_rfl) h)

end Go.Proofs.YtkibfmnkkiakoaaGreat
