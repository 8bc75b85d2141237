/- Part. -/
import Derived.Test.YtjadnpidefnpoaaGreatGSc3
set_option maxRecDepth 100000
set_option maxHeartbeats 4000000
namespace Go.Proofs.YtjadnpidefnpoaaGreat
open Go Go.Vc Go.Proofs
open Go.Proofs.Tryz (prog)
open Go.IntKind (i8 i16 i32 i64 u8 u16 u32 u64)
theorem T0f(p0:Int)(V:View)(R:RT) (h:((decide ((p0:Int)>=1))=true->((decide ((p0:Int)<=64))=true->R (.bool (((i64.wrap (BitVec.toNat ((BitVec.ofInt i64.bits p0) &&& (BitVec.ofInt i64.bits (i64.wrap (p0-1)))))):Int)==0)) V)/\((decide ((p0:Int)<=64))=false->R (.bool false) V))/\((decide ((p0:Int)>=1))=false->R (.bool false) V)):a00 prog 304 #[.int .i64 p0] V R :=
 cv9 [.int .i64 p0] Tryz.func304 (by kernel_rfl) (.seq (rG [73]) (.seq (.reg [A 3 2,A 4 0,⟨5,2,true⟩,A 6 2,A 7 0,A 8 20,⟨9,2,true⟩,A 10 2,A 11 2,A 12 0,A 13 0,A 14 0,A 15 20,A 2 2]) .leaf)) (Eq.mpr (by kernel_rfl) h)
theorem z0h(p0:Int)(p1:Int)(V:View)(R:RT) (h:((decide (((i64.wrap (2*p1)):Int)<p0))=true->R (.int .i64 p1) V)/\((decide (((i64.wrap (2*p1)):Int)<p0))=false->R (.int .i64 (i64.wrap (p1-p0))) V)):a00 prog 305 #[.int .i64 p0,.int .i64 p1] V R :=
 cv9 [.int .i64 p0,.int .i64 p1] Tryz.func305 (by kernel_rfl) (.seq (rG [130]) (.seq (.seq (rG [162,192,226,256]) (.cond (.seq (rG [290,130]) .leaf) .leaf)) (.seq (rG [322,354,384,130]) .leaf))) (Eq.mpr (by kernel_rfl) h)
theorem A0h(p0:Int)(p1:Int)(V:View)(R:RT) (h:a00 prog 304 #[.int .i64 p0] V λv V1=>∃r1:Bool,v = .bool r1/\((!r1)=true->R (.tuple #[.int .i64 0,.int .i64 4]) V1)/\((!r1)=false->((decide ((p1:Int)<0))=true->R (.tuple #[.int .i64 0,.int .i64 1]) V1)/\((decide ((p1:Int)<0))=false->((decide ((p1:Int)>=p0))=true->R (.tuple #[.int .i64 0,.int .i64 1]) V1)/\((decide ((p1:Int)>=p0))=false->a00 prog 305 #[.int .i64 p0,.int .i64 p1] V1 λv V2=>∃r2:Int,v = .int .i64 r2/\R (.tuple #[.int .i64 r2,.int .i64 0]) V2)))):a00 prog 188 #[.int .i64 p0,.int .i64 p1] V R :=
 cv9 [.int .i64 p0,.int .i64 p1] Tryz.func188 (by kernel_rfl) (.seq (rG [130,162]) (.seq (.seq (rG [194,234,276]) (.cond (.seq (rG [130,162]) .leaf) .leaf)) (.seq (.seq (.reg [A 9 2,A 10 0,⟨11,2,true⟩,A 12 2,A 13 2,A 14 0,A 15 20]) (.cond (.seq (rG [130,162]) .leaf) .leaf)) (.seq (rG [514,546,586,130,162]) .leaf)))) (Eq.mpr (by kernel_rfl) h)
