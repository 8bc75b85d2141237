/- Part. -/
import Derived.Test.YtjadnpidefnpoaaGreatGFl3
set_option maxRecDepth 100000
set_option maxHeartbeats 4000000
namespace Go.Proofs.YtjadnpidefnpoaaGreat
open Go Go.Vc Go.Proofs
open Go.Proofs.Tryz (prog)
open Go.IntKind (i8 i16 i32 i64 u8 u16 u32 u64)
theorem z0v(p0:Sl)(V:View)(R:RT) (h:((((p0.len:Int):Int)==0)=true->R (.int .i64 0) V)/\((((p0.len:Int):Int)==0)=false->((0:Int)<=(i64.wrap ((p0.len:Int)-1))/\((i64.wrap ((p0.len:Int)-1)):Int)<(p0.len:Nat)/\Option.isSome p0.a=true)/\∃x1:Int,View.load V (Option.map (λq=>Addr.add q (Int.toNat (i64.wrap ((p0.len:Int)-1))*1)) p0.a)=some (.int .u32 x1)/\a00 prog 423 #[.int .u32 x1] V λv V1=>∃r1:Int,v = .int .i64 r1/\R (.int .i64 (i64.wrap ((i64.wrap (32*(i64.wrap ((p0.len:Int)-1))))+r1))) V1)):a00 prog 438 #[p0.v] V R :=
 cv9 [p0.v] Tryz.func438 (by kernel_rfl) (.seq (rG [66]) (.seq (.seq (rG [98,128,160]) (.cond (.seq (rG [66]) .leaf) .leaf)) (.seq (rG [194,224,256,288,322,354,384,416,455,485,522,544,66]) .leaf))) (Eq.mpr (by kernel_rfl) h)
