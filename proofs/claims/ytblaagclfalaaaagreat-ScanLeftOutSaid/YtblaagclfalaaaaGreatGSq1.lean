/- Part. -/
import Derived.Test.YtblaagclfalaaaaGreatGSl1
set_option maxRecDepth 100000
set_option maxHeartbeats 4000000
namespace Go.Proofs.YtblaagclfalaaaaGreat
open Go Go.Vc Go.Proofs
open Go.Proofs.Tryz (prog)
open Go.IntKind (i8 i16 i32 i64 u8 u16 u32 u64)
theorem d0n(p0:NumV)(V:View)(R:RT) (h:a00 prog 189 #[p0.re.val,p0.re.val] V λv V1=>∃r1:WhV,v=r1.val/\a00 prog 189 #[p0.im.val,p0.im.val] V1 λv V2=>∃r2:WhV,v=r2.val/\a00 prog 190 #[r1.val,r2.val] V2 λv V3=>∃r3:WhV,v=r3.val/\a00 prog 141 #[p0.val] V3 λv V4=>∃r4:Sl,v=r4.v/\a00 prog 141 #[p0.val] V4 λv V5=>∃r5:Sl,v=r5.v/\a00 prog 191 #[r4.v,r5.v] V5 λv V6=>∃r6:Sl,v=r6.v/\a00 prog 188 #[r3.val,(WhV.mk false (Sl.mk none 0 0)).val,r6.v] V6 λv V7=>∃r7:NumV,v=r7.val/\R (r7.val) V7):a00 prog 75 #[p0.val] V R :=
 cv9 [p0.val] Tryz.func75 (by kernel_rfl) (.seq (rG [35,67]) (.seq (.draw [(0,A 3 7),(1,A 1 4),(2,A 5 7),(3,A 1 4),(5,A 8 7),(6,A 1 4),(7,A 10 7),(8,A 1 4),(11,A 14 0),(12,A 1 4),(14,A 1 4),(4,A 7 10),(9,A 12 10),(10,A 13 10),(13,A 16 10),(15,A 18 10),(16,A 19 10),(17,A 20 10),(18,A 2 6)] [0,1,0,4,15,0,32,0,128,511,1023,0,0,6143,0,30719,63487,131071,262143]) .leaf)) (Eq.mpr (by kernel_rfl) h)
