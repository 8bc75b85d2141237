/- Part. -/
import Derived.Test.YtfdaofhjkdabbaaGreatGRb4
set_option maxRecDepth 100000
set_option maxHeartbeats 4000000
namespace Go.Proofs.YtfdaofhjkdabbaaGreat
open Go Go.Vc Go.Proofs
open Go.Proofs.Tryz (prog)
open Go.IntKind (i8 i16 i32 i64 u8 u16 u32 u64)
theorem H0r (p0:NumV) (V:View) (R:RT)  (h:a00 prog 265 #[p0.im.val,(WhV.mk false (Sl.mk none 0 0)).val,p0.under.v] V fun v V1=>∃r1:NumV,v=r1.val∧R (r1.val) V1):a00 prog 249 #[p0.val] V R :=
 cv9 [p0.val] Tryz.func249 (by kernel_rfl) (.seq (rG [35,67]) (.seq (rG [103,36,160,199,36,266,70]) .leaf)) (Eq.mpr (by kernel_rfl) h)
theorem Y0o (p0:NumV) (p1:NumV) (V:View) (R:RT)  (h:a00 prog 230 #[p0.val,p1.val] V fun v V1=>∃r1:NumV,v=r1.val∧a00 prog 185 #[r1.val] V1 fun v V2=>∃r2:Int,v = .int .i64 r2∧(((r2:Int) != 0)=true→R (.int .i64 r2) V2)∧(((r2:Int) != 0)=false→a00 prog 249 #[r1.val] V2 fun v V3=>∃r3:NumV,v=r3.val∧a00 prog 185 #[r3.val] V3 fun v V4=>∃r4:Int,v = .int .i64 r4∧R (.int .i64 r4) V4)):a00 prog 164 #[p0.val,p1.val] V R :=
 cv9 [p0.val,p1.val] Tryz.func164 (by kernel_rfl) (.seq (rG [67,99,130]) (.seq (rG [68,100,298,163,166]) (.seq (.seq (rG [164,362,194]) (.seq (rG [386,416]) (.cond (.seq (rG [450,130]) .leaf) .leaf))) (.seq (rG [164,522,554,130]) .leaf)))) (Eq.mpr (by kernel_rfl) h)
