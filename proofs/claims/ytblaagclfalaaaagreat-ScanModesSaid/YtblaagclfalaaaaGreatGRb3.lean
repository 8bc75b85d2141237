/- Part. -/
import Derived.Test.YtblaagclfalaaaaGreatFR1
set_option maxRecDepth 100000
set_option maxHeartbeats 4000000
namespace Go.Proofs.YtblaagclfalaaaaGreat
open Go Go.Vc Go.Proofs
open Go.Proofs.Tryz (prog)
open Go.IntKind (i8 i16 i32 i64 u8 u16 u32 u64)
theorem z0l(p0:NumV)(V:View)(R:RT) (h:a00 prog 228 #[p0.val] V λv V1=>∃r1:NumV,v=r1.val/\a00 prog 160 #[r1.val] V1 λv V2=>∃r2:Int,v = .int .i64 r2/\R (.int .i64 r2) V2):a00 prog 324 #[p0.val] V R :=
 cv9 [p0.val] Tryz.func324 (by kernel_rfl) (.seq (rG [35,66]) (.seq (rG [36,138,170,66]) .leaf)) (Eq.mpr (by kernel_rfl) h)
