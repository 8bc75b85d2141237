/- Part. -/
import Derived.Test.YtkibfmnkkiakoaaGreatGBla
set_option maxRecDepth 100000
set_option maxHeartbeats 4000000
namespace Go.Proofs.YtkibfmnkkiakoaaGreat
open Go Go.Vc Go.Proofs
open Go.Proofs.Tryz (prog)
open Go.IntKind (i8 i16 i32 i64 u8 u16 u32 u64)
theorem O0l (p0 : SpV) (p1 : SpV) (V : View) (R : Value → View → Prop)  (h : a00 prog 99 #[p0.val] V fun v V1 => ∃ r1 : SetV, v = r1.val ∧ a00 prog 99 #[p1.val] V1 fun v V2 => ∃ r2 : SetV, v = r2.val ∧ a00 prog 121 #[r1.val, r2.val] V2 fun v V3 => ∃ r3 : SetV, v = r3.val ∧ a00 prog 101 #[r3.val] V3 fun v V4 => ∃ r4 : SpV, v = r4.val ∧ R (r4.val) V4) : a00 prog 69 #[p0.val, p1.val] V R :=
 cv9 [p0.val, p1.val] Tryz.func69 (by kernel_rfl) (.seq (.reg [A 2 3, A 3 3, A 4 3]) (.seq (.draw [(0, A 2 4), (2, A 3 4), (1, A 6 10), (3, A 8 10), (4, A 9 10), (5, A 10 10), (6, A 4 6)] [0, 1, 0, 7, 15, 31, 63]) .leaf)) (Eq.mpr (by kernel_rfl) h)
theorem P0l (p0 : SpV) (p1 : SpV) (V : View) (R : Value → View → Prop)  (h : a00 prog 99 #[p0.val] V fun v V1 => ∃ r1 : SetV, v = r1.val ∧ a00 prog 99 #[p1.val] V1 fun v V2 => ∃ r2 : SetV, v = r2.val ∧ a00 prog 102 #[r2.val] V2 fun v V3 => ∃ r3 : SetV, v = r3.val ∧ a00 prog 121 #[r1.val, r3.val] V3 fun v V4 => ∃ r4 : SetV, v = r4.val ∧ a00 prog 101 #[r4.val] V4 fun v V5 => ∃ r5 : SpV, v = r5.val ∧ R (r5.val) V5) : a00 prog 71 #[p0.val, p1.val] V R :=
 cv9 [p0.val, p1.val] Tryz.func71 (by kernel_rfl) (.seq (.reg [A 2 3, A 3 3, A 4 3]) (.seq (.draw [(0, A 2 4), (2, A 3 4), (1, A 6 10), (3, A 8 10), (4, A 9 10), (5, A 10 10), (6, A 11 10), (7, A 4 6)] [0, 1, 0, 7, 15, 31, 63, 127]) .leaf)) (Eq.mpr (by kernel_rfl) h)
theorem k0p (p0 : BoxV) (p1 : BoxV) (V : View) (R : Value → View → Prop)  (h : a00 prog 69 #[p0.re.val, p1.re.val] V fun v V1 => ∃ r1 : SpV, v = r1.val ∧ a00 prog 69 #[p0.im.val, p1.im.val] V1 fun v V2 => ∃ r2 : SpV, v = r2.val ∧ R ((BoxV.mk r1 r2).val) V2) : a00 prog 18 #[p0.val, p1.val] V R :=
 cv9 [p0.val, p1.val] Tryz.func18 (by kernel_rfl) (.seq (.reg [A 2 3, A 3 3, A 4 3]) (.seq (.draw [(0, A 5 7), (1, A 2 4), (2, A 7 7), (3, A 3 4), (5, A 10 7), (6, A 2 4), (7, A 12 7), (8, A 3 4), (4, A 9 10), (9, A 14 10), (10, A 15 0), (11, A 4 6)] [0, 1, 0, 4, 15, 0, 32, 0, 128, 511, 1023, 2047]) .leaf)) (Eq.mpr (by kernel_rfl) h)
theorem l0p (p0 : BoxV) (p1 : BoxV) (V : View) (R : Value → View → Prop)  (h : a00 prog 71 #[p0.re.val, p1.re.val] V fun v V1 => ∃ r1 : SpV, v = r1.val ∧ a00 prog 71 #[p0.im.val, p1.im.val] V1 fun v V2 => ∃ r2 : SpV, v = r2.val ∧ R ((BoxV.mk r1 r2).val) V2) : a00 prog 20 #[p0.val, p1.val] V R :=
 cv9 [p0.val, p1.val] Tryz.func20 (by kernel_rfl) (.seq (.reg [A 2 3, A 3 3, A 4 3]) (.seq (.draw [(0, A 5 7), (1, A 2 4), (2, A 7 7), (3, A 3 4), (5, A 10 7), (6, A 2 4), (7, A 12 7), (8, A 3 4), (4, A 9 10), (9, A 14 10), (10, A 15 0), (11, A 4 6)] [0, 1, 0, 4, 15, 0, 32, 0, 128, 511, 1023, 2047]) .leaf)) (Eq.mpr (by kernel_rfl) h)
