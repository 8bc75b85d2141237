/- Part. -/
import Derived.Test.YtjadnpidefnpoaaGreatGBts
set_option maxRecDepth 100000
set_option maxHeartbeats 4000000
namespace Go.Proofs.YtjadnpidefnpoaaGreat
open Go Go.Vc Go.Proofs
open Go.Proofs.Tryz (prog)
open Go.IntKind (i8 i16 i32 i64 u8 u16 u32 u64)
theorem c0f(p0:Int)(p1:Int)(p2:Int)(V:View)(R:RT) (h:(p2:Int)≠0/\((decide (((Int.tmod p1 p2):Int)<0))=true->(p2:Int)≠0/\R (.int .i64 (Int.tmod (i64.wrap (p0+(i64.wrap ((Int.tmod p1 p2)+p2)))) p2)) V)/\((decide (((Int.tmod p1 p2):Int)<0))=false->(p2:Int)≠0/\R (.int .i64 (Int.tmod (i64.wrap (p0+(Int.tmod p1 p2))) p2)) V)):a00 prog 168 #[.int .i64 p0,.int .i64 p1,.int .i64 p2] V R :=
 cv9 [.int .i64 p0,.int .i64 p1,.int .i64 p2] Tryz.func168 (by kernel_rfl) (.seq (rG [194]) (.seq (rG [258,290,332,226]) (.seq (.seq (rG [354,384]) (.cond (rG [418,450,480,226]) .leaf)) (.seq (rG [514,546,576,610,652,194]) .leaf)))) (Eq.mpr (by kernel_rfl) h)
