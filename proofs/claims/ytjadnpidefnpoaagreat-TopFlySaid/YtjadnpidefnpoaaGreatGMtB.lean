/- Part. -/
import Derived.Test.YtjadnpidefnpoaaGreatGBx1
set_option maxRecDepth 100000
set_option maxHeartbeats 4000000
namespace Go.Proofs.YtjadnpidefnpoaaGreat
open Go Go.Vc Go.Proofs
open Go.Proofs.Tryz (prog)
open Go.IntKind (i8 i16 i32 i64 u8 u16 u32 u64)
theorem t08(pm:View)(p0:Sl)(V:View)(R:IT Value View) (h :
 True/\((Option.isNone p0.a)=true->R ((Sl.mk none 0 0).v) pm V)/\((Option.isNone p0.a)=false->∀(b1:Nat) (V1:View),View.le V V1->View.Fin V1->V1 b1=some #[]->∃(l1:List Value) (l2:List Value),((0:Nat)<=0/\((some (Addr.mk b1 0 none))=none->(0:Nat)=0))/\has2 pm V1 (some (Addr.mk b1 0 none)) l1/\List.length l1=0*4/\has2 pm V1 p0.a l2/\List.length l2=p0.len*4/\(∀v∈l2,Value.oneCell' v=true)/\0+p0.len<=maxLen/\(0+p0.len)*32<=140737488355328/\((p0.len:Nat)≠0->0+p0.len<=0->∃(b2 c2:Nat) (l3:List Value),(some (Addr.mk b1 0 none))=some (Addr.mk b2 c2 none)/\pm b2=some (List.toArray l3)/\c2+(0+p0.len)*4<=List.length l3)/\∀(a1:Option Addr) (c1:Nat) (m1:View),AppR pm V1 (some (Addr.mk b1 0 none)) 0 0 p0.len 4 l1 l2 a1 c1 m1->R ((Sl.mk a1 (0+p0.len) c1).v) m1 V1)):f03 prog 272 #[p0.v] pm V R :=
 Y05 (Shp:=Shp) (r:=0) (m:=pm) f00 Tryz.func272 (c:=Tryz.f272.body.getD .skip) (args:=[p0.v]) (by kernel_rfl) (by kernel_rfl) (.seq (rG [66]) (.seq (.seq (rG [98,140]) (.cond (.seq (rG [66]) .leaf) .leaf)) (.seq (rG [171,194,25,66]) .leaf))) (Eq.mpr (by kernel_rfl) h)
