/- Part. -/
import Derived.Test.YtkibfmnkkiakoaaGreatFLen
set_option maxRecDepth 100000
set_option maxHeartbeats 4000000
namespace Go.Proofs.YtkibfmnkkiakoaaGreat
open Go Go.Vc Go.Proofs
open Go.Proofs.Tryz (prog)
open Go.IntKind (i8 i16 i32 i64 u8 u16 u32 u64)
theorem Q0p (p0 : NumV) (V : View) (R : Value → View → Prop)  (h : a00 prog 196 #[p0.re.val, (WhV.mk false (Sl.mk none 0 0)).val, p0.under.v] V fun v V1 => ∃ r1 : NumV, v = r1.val ∧ R (r1.val) V1) : a00 prog 130 #[p0.val] V R :=
 cv9 [p0.val] Tryz.func130 (by kernel_rfl) (.seq (.reg [A 1 3, A 2 3]) (.seq (.reg [A 3 7, A 1 4, A 5 0, A 6 7, A 1 4, A 8 10, A 2 6]) .leaf)) (Eq.mpr (by kernel_rfl) h)
theorem C0k (p0 : SpV) (p1 : SpV) (V : View) (R : Value → View → Prop)  (h : (FloatKind.f64.format.order p0.lo p1.lo).isSome = true ∧ (FloatKind.f64.format.order p0.hi p1.hi).isSome = true ∧ R ((SpV.mk (fmin .f64 p0.lo p1.lo) (fmax .f64 p0.hi p1.hi)).val) V) : a00 prog 134 #[p0.val, p1.val] V R :=
 cv9 [p0.val, p1.val] Tryz.func134 (by kernel_rfl) (.seq (.reg [A 2 3, A 3 3, A 4 3]) (.seq (.reg [A 5 7, A 2 4, A 7 7, A 3 4, A 9 12, A 10 7, A 2 4, A 12 7, A 3 4, A 14 12, A 15 0, A 4 6]) .leaf)) (Eq.mpr (by kernel_rfl) h)
theorem s0d (p0 : BoxV) (V : View) (R : Value → View → Prop)  (h : a00 prog 72 #[(SpV.mk 0 0).val, p0.im.val] V fun v V1 => ∃ r1 : SpV, v = r1.val ∧ R ((BoxV.mk p0.re r1).val) V1) : a00 prog 25 #[p0.val] V R :=
 cv9 [p0.val] Tryz.func25 (by kernel_rfl) (.seq (.reg [A 1 3, A 2 3]) (.seq (.draw [(0, A 3 7), (1, A 1 4), (2, A 5 0), (3, A 6 7), (4, A 1 4), (5, A 8 10), (6, A 9 0), (7, A 2 6)] [0, 1, 0, 0, 8, 28, 63, 127]) .leaf)) (Eq.mpr (by kernel_rfl) h)
theorem t0d (p0 : BoxV) (p1 : BoxV) (V : View) (R : Value → View → Prop)  (h : a00 prog 134 #[p0.re.val, p1.re.val] V fun v V1 => ∃ r1 : SpV, v = r1.val ∧ a00 prog 134 #[p0.im.val, p1.im.val] V1 fun v V2 => ∃ r2 : SpV, v = r2.val ∧ R ((BoxV.mk r1 r2).val) V2) : a00 prog 54 #[p0.val, p1.val] V R :=
 cv9 [p0.val, p1.val] Tryz.func54 (by kernel_rfl) (.seq (.reg [A 2 3, A 3 3, A 4 3]) (.seq (.draw [(0, A 5 7), (1, A 2 4), (2, A 7 7), (3, A 3 4), (5, A 10 7), (6, A 2 4), (7, A 12 7), (8, A 3 4), (4, A 9 10), (9, A 14 10), (10, A 15 0), (11, A 4 6)] [0, 1, 0, 4, 15, 0, 32, 0, 128, 511, 1023, 2047]) .leaf)) (Eq.mpr (by kernel_rfl) h)
