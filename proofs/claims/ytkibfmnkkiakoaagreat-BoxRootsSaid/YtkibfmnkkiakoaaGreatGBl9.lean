/- Part. -/
import Derived.Test.YtkibfmnkkiakoaaGreatFNum1
set_option maxRecDepth 100000
set_option maxHeartbeats 4000000
namespace Go.Proofs.YtkibfmnkkiakoaaGreat
open Go Go.Vc Go.Proofs
open Go.Proofs.Tryz (prog)
open Go.IntKind (i8 i16 i32 i64 u8 u16 u32 u64)
theorem m0d (p0 : y08) (V : View) (R : Value → View → Prop)  (h : a00 prog 15 #[] V fun v V1 => ∃ r1 : Bool, v = .bool r1 ∧ ((!r1) = true → R (.bool false) V1) ∧ ((!r1) = false → a00 prog 16 #[p0.val] V1 fun v V2 => ∃ (r2 : BoxV) (r3 : BoxV) (r4 : Bool), v = .tuple #[r2.val, r3.val, .bool r4] ∧ ((!r4) = true → R (.bool true) V2) ∧ ((!r4) = false → a00 prog 61 #[r2.val] V2 fun v V3 => ∃ (r5 : BoxV) (r6 : Bool), v = .tuple #[r5.val, .bool r6] ∧ (r6 = true → a00 prog 62 #[r3.val] V3 fun v V4 => ∃ r7 : BoxV, v = r7.val ∧ a00 prog 17 #[r5.val, r7.val] V4 fun v V5 => ∃ r8 : Bool, v = .bool r8 ∧ R (.bool r8) V5) ∧ (r6 = false → R (.bool false) V3)))) : a00 prog 9 #[p0.val] V R :=
 cv9 [p0.val] Tryz.func9 (by kernel_rfl) (.seq (.reg [A 1 3, A 2 9]) (.seq (.seq (.reg [A 8 10, A 9 20]) (.cond (.seq (.reg [A 2 9]) .leaf) .leaf)) (.seq (.reg [A 1 4, A 12 10, A 10 2, A 13 0, A 14 0, A 15 0, A 3 3, A 4 3, A 3 6, A 4 6, A 5 2]) (.seq (.seq (.reg [A 16 2, A 17 20]) (.cond (.seq (.reg [A 2 9]) .leaf) .leaf)) (.seq (.reg [A 3 4, A 20 10, A 18 2, A 21 0, A 22 0, A 6 3, A 6 6, A 7 2]) (.seq (.draw [(0, A 23 2), (1, ⟨24, 2, true⟩), (2, A 6 4), (3, A 4 4), (4, A 27 10), (5, A 28 10), (6, A 29 20), (7, A 2 2)] [0, 1, 3, 3, 11, 31, 63, 127]) .leaf)))))) (Eq.mpr (by kernel_rfl) h)
