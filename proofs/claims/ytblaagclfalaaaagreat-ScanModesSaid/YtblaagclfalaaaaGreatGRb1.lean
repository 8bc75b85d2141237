/- Part. -/
import Derived.Test.YtblaagclfalaaaaGreatGRb4
set_option maxRecDepth 100000
set_option maxHeartbeats 4000000
namespace Go.Proofs.YtblaagclfalaaaaGreat
open Go Go.Vc Go.Proofs
open Go.Proofs.Tryz (prog)
open Go.IntKind (i8 i16 i32 i64 u8 u16 u32 u64)
theorem S0p(p0:NumV)(V:View)(R:RT) (h:a00 prog 258 #[p0.im.val,(WhV.mk false (Sl.mk none 0 0)).val,p0.under.v] V λv V1=>∃r1:NumV,v=r1.val/\R (r1.val) V1):a00 prog 228 #[p0.val] V R :=
 cv9 [p0.val] Tryz.func228 (by kernel_rfl) (.seq (rG [35,67]) (.seq (rG [103,36,160,199,36,266,70]) .leaf)) (Eq.mpr (by kernel_rfl) h)
