/- Part. -/
import Derived.Test.YtblaagclfalaaaaGreatGTgL
set_option maxRecDepth 100000
set_option maxHeartbeats 4000000
namespace Go.Proofs.YtblaagclfalaaaaGreat
open Go Go.Vc Go.Proofs
open Go.Proofs.Tryz (prog)
open Go.IntKind (i8 i16 i32 i64 u8 u16 u32 u64)
structure S00 where(t3:Int)
def p04(p0:Int)(_c:Unit)(w x:S00):Prop:=(Q1 (.val (.int .i64 p0))/\E2 (.val (.int .i64 w.t3)) (.val (.int .i64 x.t3))/\True)/\(True)
def l03(p0:Int)(V:View)(R:RT)(I0:IT Unit S00)(E0:IT Unit S00)(B0:BT Unit S00):Prop:=E0 () (S00.mk 1) V/\(∀(x2:S00) (V1:View),View.le V V1->I0 () x2 V1->((decide ((x2.t3:Int)<=64))=true->(((p0:Int)==x2.t3)=true->R (.bool true) V1)/\(((p0:Int)==x2.t3)=false->B0 () (S00.mk (i64.wrap (x2.t3*2))) V1 x2 V1))/\((decide ((x2.t3:Int)<=64))=false->R (.bool false) V1))
theorem y07(p0:Int)(V:View)(R:RT)(I0:IT Unit S00)(J0:JT Unit S00){X:Prop}(e:l03 p0 V R I0 I0 (λc w V x U=>I0 c w V/\J0 c w V<J0 c x U)=X)(h:X):a00 prog 113 #[.int .i64 p0] V R :=
 cv9 [.int .i64 p0] Tryz.func113 (by kernel_rfl) (.seq (rG [66]) (.seq (.seq (rG [98]) (.block (.loop Unit S00 (λ_=>()) (λc x=>{ tm:=spT 11 0 [(0,.val (.int .i64 p0)),(3,.val (.int .i64 x.t3))],own:=spO 11 0 [] }) I0 J0 (.seq (.seq (rG [130,160]) (.cond .leaf .leaf)) (.seq (.block (.seq (rG [258,290,320]) (.cond (.seq (rG [66]) .leaf) .leaf))) (rG [194,224,98])))))) (.seq (rG [66]) .leaf))) (Eq.mpr (by kernel_rfl) (show l03 p0 V R I0 (λc w V=>∃x,p04 p0 c w x/\I0 c x V) (λc w V y U=>∃x,p04 p0 c w x/\I0 c x V/\J0 c x V<J0 c y U)from by
 have h:=Eq.mpr e h; unfold l03 at h ⊢; revert h; repeat' first|with_reducible exact id|refine And.imp ?_ ?_|refine forall_imp λ_ => ?_|refine Exists.imp λ_ => ?_|refine cvI λ_ _ => ?_|exact λh=>⟨_,by(repeat' apply And.intro)<;>first|rfl|trivial,h⟩))
theorem i0b:type_of% (λp0 V R I0 J0=>y07 p0 V R I0 J0 (l03.eq_1 ..)):=λp0 V R I0 J0=>y07 p0 V R I0 J0 (l03.eq_1 ..)
