/- Part. -/
import Derived.Test.YtjadnpidefnpoaaGreatGBl1
set_option maxRecDepth 100000
set_option maxHeartbeats 4000000
namespace Go.Proofs.YtjadnpidefnpoaaGreat
open Go Go.Vc Go.Proofs
open Go.Proofs.Tryz (prog)
open Go.IntKind (i8 i16 i32 i64 u8 u16 u32 u64)
theorem p0s(p0:SpV)(p1:SpV)(V:View)(R:RT) (h:(FloatKind.f64.format.order p0.lo p1.lo).isSome=true/\(FloatKind.f64.format.order p0.hi p1.hi).isSome=true/\R ((SpV.mk (fmin .f64 p0.lo p1.lo) (fmax .f64 p0.hi p1.hi)).val) V):a00 prog 256 #[p0.val,p1.val] V R :=
 cv9 [p0.val,p1.val] Tryz.func256 (by kernel_rfl) (.seq (rG [67,99,131]) (.seq (rG [167,68,231,100,300,327,68,391,100,460,480,134]) .leaf)) (Eq.mpr (by kernel_rfl) h)
theorem q0s(p0:SpV)(V:View)(R:RT) (h:a00 prog 312 #[.float .f64 p0.lo] V λv V1=>∃r1:BdV,v=r1.val/\a00 prog 312 #[.float .f64 p0.hi] V1 λv V2=>∃r2:BdV,v=r2.val/\R ((SetV.mk r1 r2).val) V2):a00 prog 200 #[p0.val] V R :=
 cv9 [p0.val] Tryz.func200 (by kernel_rfl) (.seq (rG [35,67]) (.seq (.draw [(0,A 3 7),(1,A 1 4),(3,A 6 7),(4,A 1 4),(2,A 5 10),(5,A 8 10),(6,A 9 0),(7,A 2 6)] [0,1,3,0,8,31,63,127]) .leaf)) (Eq.mpr (by kernel_rfl) h)
theorem s0s(p0:BoxV)(p1:BoxV)(V:View)(R:RT) (h:a00 prog 256 #[p0.re.val,p1.re.val] V λv V1=>∃r1:SpV,v=r1.val/\a00 prog 256 #[p0.im.val,p1.im.val] V1 λv V2=>∃r2:SpV,v=r2.val/\R ((BoxV.mk r1 r2).val) V2):a00 prog 121 #[p0.val,p1.val] V R :=
 cv9 [p0.val,p1.val] Tryz.func121 (by kernel_rfl) (.seq (rG [67,99,131]) (.seq (.draw [(0,A 5 7),(1,A 2 4),(2,A 7 7),(3,A 3 4),(5,A 10 7),(6,A 2 4),(7,A 12 7),(8,A 3 4),(4,A 9 10),(9,A 14 10),(10,A 15 0),(11,A 4 6)] [0,1,0,4,15,0,32,0,128,511,1023,2047]) .leaf)) (Eq.mpr (by kernel_rfl) h)
