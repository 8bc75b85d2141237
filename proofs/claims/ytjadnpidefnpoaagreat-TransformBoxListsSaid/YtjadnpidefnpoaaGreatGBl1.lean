/- Part. -/
import Derived.Test.YtjadnpidefnpoaaGreatGBl2
set_option maxRecDepth 100000
set_option maxHeartbeats 4000000
namespace Go.Proofs.YtjadnpidefnpoaaGreat
open Go Go.Vc Go.Proofs
open Go.Proofs.Tryz (prog)
open Go.IntKind (i8 i16 i32 i64 u8 u16 u32 u64)
theorem y0q(p0:Nat)(p1:Nat)(V:View)(R:RT) (h:∃e1:Int,N07 prog 302 #[.float .f64 p0] (.int .u64 e1)/\∃e2:Int,N07 prog 302 #[.float .f64 p1] (.int .u64 e2)/\R (.bool ((e1:Int)==e2)) V):a00 prog 180 #[.float .f64 p0,.float .f64 p1] V R :=
 cv9 [.float .f64 p0,.float .f64 p1] Tryz.func180 (by kernel_rfl) (.seq (rG [137]) (.seq (rG [162,204,226,268,288,130]) .leaf)) (Eq.mpr (by kernel_rfl) h)
theorem S0l(p0:SpV)(p1:SpV)(V:View)(R:RT) (h:(((FloatKind.f64.format.order p1.lo p0.lo==some .lt)||(FloatKind.f64.format.order p1.lo p0.lo==some .eq))=true->R (.bool ((FloatKind.f64.format.order p0.hi p1.hi==some .lt)||(FloatKind.f64.format.order p0.hi p1.hi==some .eq))) V)/\(((FloatKind.f64.format.order p1.lo p0.lo==some .lt)||(FloatKind.f64.format.order p1.lo p0.lo==some .eq))=false->R (.bool false) V)):a00 prog 382 #[p0.val,p1.val] V R :=
 cv9 [p0.val,p1.val] Tryz.func382 (by kernel_rfl) (.seq (rG [67,99,137]) (.seq (.reg [A 5 7,A 3 4,A 7 7,A 2 4,A 9 0,⟨10,2,true⟩,A 11 7,A 2 4,A 13 7,A 3 4,A 15 0,A 16 20,A 4 2]) .leaf)) (Eq.mpr (by kernel_rfl) h)
