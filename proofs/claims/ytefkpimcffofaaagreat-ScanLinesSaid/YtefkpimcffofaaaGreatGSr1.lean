/- Part. -/
import Derived.Test.YtefkpimcffofaaaGreatGGt
set_option maxRecDepth 100000
set_option maxHeartbeats 4000000
namespace Go.Proofs.YtefkpimcffofaaaGreat
open Go Go.Vc Go.Proofs
open Go.Proofs.Tryz (prog)
open Go.IntKind (i8 i16 i32 i64 u8 u16 u32 u64)
theorem y0c (p0 : NumV) (V : View) (R : RT)  (h : a00 prog 274 #[p0.val] V fun v V1 => ∃ r1 : Int, v = .int .i64 r1 ∧ R (.bool ((r1 : Int) == 0)) V1) : a00 prog 174 #[p0.val] V R :=
 cv9 [p0.val] Tryz.func174 (by kernel_rfl) (.seq (rG [35,73]) (.seq (rG [36,138,160,66]) .leaf)) (Eq.mpr (by kernel_rfl) h)
