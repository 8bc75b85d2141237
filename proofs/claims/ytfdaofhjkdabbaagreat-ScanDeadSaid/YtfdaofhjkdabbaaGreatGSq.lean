/- Part. -/
import Derived.Test.YtfdaofhjkdabbaaGreatGSd
set_option maxRecDepth 100000
set_option maxHeartbeats 4000000
namespace Go.Proofs.YtfdaofhjkdabbaaGreat
open Go Go.Vc Go.Proofs
open Go.Proofs.Tryz (prog)
open Go.IntKind (i8 i16 i32 i64 u8 u16 u32 u64)
theorem u0a(p0:NumV)(V:View)(R:RT) (h:a00 prog 305 #[p0.val] V λv V1=>∃r1:Int,v = .int .i64 r1/\(((r1:Int)==0)=true->a00 prog 185 #[p0.val] V1 λv V2=>∃r2:Int,v = .int .i64 r2/\R (.bool (decide ((r2:Int)>0))) V2)/\(((r1:Int)==0)=false->R (.bool false) V1)):a00 prog 212 #[p0.val] V R :=
 cv9 [p0.val] Tryz.func212 (by kernel_rfl) (.seq (rG [35,73]) (.seq (.reg [A 1 4,A 4 10,A 5 0,⟨6,2,true⟩,A 1 4,A 8 10,A 9 0,A 10 20,A 2 2]) .leaf)) (Eq.mpr (by kernel_rfl) h)
