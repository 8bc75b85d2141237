/- Part. -/
import Derived.Test.YtjadnpidefnpoaaGreatFShf
set_option maxRecDepth 100000
set_option maxHeartbeats 4000000
namespace Go.Proofs.YtjadnpidefnpoaaGreat
open Go Go.Vc Go.Proofs
open Go.Proofs.Tryz (prog)
open Go.IntKind (i8 i16 i32 i64 u8 u16 u32 u64)
structure p01 where(t3:Int)
def q05(p0:Int)(_c:Unit)(w x:p01):Prop:=(Q1 (.val (.int .i64 p0))/\E2 (.val (.int .i64 w.t3)) (.val (.int .i64 x.t3))/\True)/\(True)
def w04(p0:Int)(V:View)(R:RT)(I0:IT Unit p01)(E0:IT Unit p01)(B0:BT Unit p01):Prop:=E0 () (p01.mk 1) V/\(∀(x2:p01) (V1:View),View.le V V1->I0 () x2 V1->((decide ((x2.t3:Int)<=64))=true->(((p0:Int)==x2.t3)=true->R (.bool true) V1)/\(((p0:Int)==x2.t3)=false->B0 () (p01.mk (i64.wrap (x2.t3*2))) V1 x2 V1))/\((decide ((x2.t3:Int)<=64))=false->R (.bool false) V1))
theorem L08(p0:Int)(V:View)(R:RT)(I0:IT Unit p01)(J0:JT Unit p01){X:Prop}(e:w04 p0 V R I0 I0 (λc w V x U=>I0 c w V/\J0 c w V<J0 c x U)=X)(h:X):a00 prog 171 #[.int .i64 p0] V R :=
 cv9 [.int .i64 p0] Tryz.func171 (by kernel_rfl) (.seq (rG [66]) (.seq (.seq (rG [98]) (.block (.loop Unit p01 (λ_=>()) (λc x=>{ tm:=spT 11 0 [(0,.val (.int .i64 p0)),(3,.val (.int .i64 x.t3))],own:=spO 11 0 [] }) I0 J0 (.seq (.seq (rG [130,160]) (.cond .leaf .leaf)) (.seq (.block (.seq (rG [258,290,320]) (.cond (.seq (rG [66]) .leaf) .leaf))) (rG [194,224,98])))))) (.seq (rG [66]) .leaf))) (Eq.mpr (by kernel_rfl) (show w04 p0 V R I0 (λc w V=>∃x,q05 p0 c w x/\I0 c x V) (λc w V y U=>∃x,q05 p0 c w x/\I0 c x V/\J0 c x V<J0 c y U)from by
 have h:=Eq.mpr e h; unfold w04 at h ⊢; revert h; repeat' first|with_reducible exact id|refine And.imp ?_ ?_|refine forall_imp λ_ => ?_|refine Exists.imp λ_ => ?_|refine cvI λ_ _ => ?_|exact λh=>⟨_,by(repeat' apply And.intro)<;>first|rfl|trivial,h⟩))
theorem u0e:type_of% (λp0 V R I0 J0=>L08 p0 V R I0 J0 (w04.eq_1 ..)):=λp0 V R I0 J0=>L08 p0 V R I0 J0 (w04.eq_1 ..)
