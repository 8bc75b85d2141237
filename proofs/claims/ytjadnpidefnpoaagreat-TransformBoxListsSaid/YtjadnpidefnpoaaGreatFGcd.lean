/- Part. -/
import Derived.Test.YtjadnpidefnpoaaGreatFNat3
set_option maxRecDepth 100000
set_option maxHeartbeats 4000000
namespace Go.Proofs.YtjadnpidefnpoaaGreat
open Go Go.Vc Go.Proofs
open Go.Proofs.Tryz (prog)
open Go.IntKind (i8 i16 i32 i64 u8 u16 u32 u64)
structure I05 where(t0 t1:Sl)
def k0g (_c:Unit)(w x:I05):Prop:=(E2 (.val w.t0.v) (.val x.t0.v)/\E2 (.val w.t1.v) (.val x.t1.v)/\True)/\(True)
def Q0d(p0:Sl)(p1:Sl)(V:View)(R:RT)(I0:IT Unit I05)(E0:IT Unit I05)(B0:BT Unit I05):Prop:=E0 () (I05.mk p0 p1) V/\(∀(x2:I05) (V1:View),View.le V V1->I0 () x2 V1->((decide (((x2.t1.len:Int):Int)>0))=true->a00 prog 263 #[x2.t0.v,x2.t1.v] V1 λv V2=>∃(r1:Sl) (r2:Sl),v = .tuple #[r1.v,r2.v]/\B0 () (I05.mk x2.t1 r2) V2 x2 V1)/\((decide (((x2.t1.len:Int):Int)>0))=false->R (x2.t0.v) V1))
theorem N0o(p0:Sl)(p1:Sl)(V:View)(R:RT)(I0:IT Unit I05)(J0:JT Unit I05){X:Prop}(e:Q0d p0 p1 V R I0 I0 (λc w V x U=>I0 c w V/\J0 c w V<J0 c x U)=X)(h:X):a00 prog 261 #[p0.v,p1.v] V R :=
 cv9 [p0.v,p1.v] Tryz.func261 (by kernel_rfl) (.seq (rG [130]) (.seq (.block (.loop Unit I05 (λ_=>()) (λc x=>{ tm:=spT 19 0 [(0,.val x.t0.v),(1,.val x.t1.v)],own:=spO 19 0 [] }) I0 J0 (.seq (.seq (rG [226,256,288]) (.cond .leaf .leaf)) (.block (.seq (rG [354,386,426,322,448,480,162,194]) (rG [514,546,2,34])))))) (.seq (rG [578,130]) .leaf))) (Eq.mpr (by kernel_rfl) (show Q0d p0 p1 V R I0 (λc w V=>∃x,k0g  c w x/\I0 c x V) (λc w V y U=>∃x,k0g  c w x/\I0 c x V/\J0 c x V<J0 c y U)from by
 have h:=Eq.mpr e h; unfold Q0d at h ⊢; revert h; repeat' first|with_reducible exact id|refine And.imp ?_ ?_|refine forall_imp λ_ => ?_|refine Exists.imp λ_ => ?_|refine cvI λ_ _ => ?_|exact λh=>⟨_,by(repeat' apply And.intro)<;>first|rfl|trivial,h⟩))
theorem X0x:type_of% (λp0 p1 V R I0 J0=>N0o p0 p1 V R I0 J0 (Q0d.eq_1 ..)):=λp0 p1 V R I0 J0=>N0o p0 p1 V R I0 J0 (Q0d.eq_1 ..)
