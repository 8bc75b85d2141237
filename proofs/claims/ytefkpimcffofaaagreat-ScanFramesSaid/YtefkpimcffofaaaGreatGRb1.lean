/- Part. -/
import Derived.Test.YtefkpimcffofaaaGreatGRb4
set_option maxRecDepth 100000
set_option maxHeartbeats 4000000
namespace Go.Proofs.YtefkpimcffofaaaGreat
open Go Go.Vc Go.Proofs
open Go.Proofs.Tryz (prog)
open Go.IntKind (i8 i16 i32 i64 u8 u16 u32 u64)
theorem H0o (p0 : NumV) (V : View) (R : Value → View → Prop)  (h : a00 prog 279 #[p0.im.val, (WhV.mk false (Sl.mk none 0 0)).val, p0.under.v] V fun v V1 => ∃ r1 : NumV, v = r1.val ∧ R (r1.val) V1) : a00 prog 253 #[p0.val] V R :=
 cv9 [p0.val] Tryz.func253 (by kernel_rfl) (.seq (.reg [A 1 3, A 2 3]) (.seq (.reg [A 3 7, A 1 4, A 5 0, A 6 7, A 1 4, A 8 10, A 2 6]) .leaf)) (Eq.mpr (by kernel_rfl) h)
