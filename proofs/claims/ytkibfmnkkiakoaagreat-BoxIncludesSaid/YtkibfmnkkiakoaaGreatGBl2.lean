/- Part. -/
import Derived.Test.YtkibfmnkkiakoaaGreatGBx4
set_option maxRecDepth 100000
set_option maxHeartbeats 4000000
namespace Go.Proofs.YtkibfmnkkiakoaaGreat
open Go Go.Vc Go.Proofs
open Go.Proofs.Tryz (prog)
open Go.IntKind (i8 i16 i32 i64 u8 u16 u32 u64)
theorem u0a (p0 : O07) (V : View) (R : Value → View → Prop)  (h : a00 prog 64 #[p0.re.val] V fun v V1 => ∃ (r1 : SpV) (r2 : SpV) (r3 : Bool), v = .tuple #[r1.val, r2.val, .bool r3] ∧ a00 prog 64 #[p0.im.val] V1 fun v V2 => ∃ (r4 : SpV) (r5 : SpV) (r6 : Bool), v = .tuple #[r4.val, r5.val, .bool r6] ∧ a00 prog 96 #[r1.val, r4.val] V2 fun v V3 => ∃ r7 : BoxV, v = r7.val ∧ (r3 = true → R (.tuple #[r7.val, (BoxV.mk r2 r5).val, .bool r6]) V3) ∧ (r3 = false → R (.tuple #[r7.val, (BoxV.mk r2 r5).val, .bool false]) V3)) : a00 prog 16 #[p0.val] V R :=
 cv9 [p0.val] Tryz.func16 (by kernel_rfl) (.seq (.reg [A 1 3, A 2 3, A 3 3, A 4 9]) (.seq (.reg [A 12 7, A 1 4, A 14 10, A 11 2, A 15 0, A 16 0, A 17 0, A 5 3, A 6 3, A 5 6, A 6 6, A 7 2]) (.seq (.reg [A 19 7, A 1 4, A 21 10, A 18 2, A 22 0, A 23 0, A 24 0, A 8 3, A 9 3, A 8 6, A 9 6, A 10 2]) (.seq (.draw [(0, A 5 4), (1, A 8 4), (3, A 6 4), (4, A 9 4), (5, A 30 0), (6, A 31 2), (2, A 27 10), (7, ⟨32, 2, true⟩), (8, A 33 2), (9, A 34 20), (10, A 2 6), (11, A 3 6), (12, A 4 2)] [0, 0, 3, 0, 0, 24, 0, 71, 199, 455, 199, 1279, 4095]) .leaf)))) (Eq.mpr (by kernel_rfl) h)
