/- Part of the proof; it has the parts FGcd. -/
import Derived.Test.YtblaagclfalaaaaFNat3
set_option maxRecDepth 100000
set_option maxHeartbeats 4000000
namespace Go.Proofs.Ytblaagclfalaaaa
open Go Go.Vc Go.Proofs
open Go.IntKind (i8 i16 i32 i64 u8 u16 u32 u64)
structure L_nat_gcd_0 where(t0 t1:Sl)
def nat_gcd_f0 (_c:Unit)(w x:L_nat_gcd_0):Prop:=(E2 (.val w.t0.v) (.val x.t0.v)/\E2 (.val w.t1.v) (.val x.t1.v)/\True)/\(True)
def nat_gcd_sk(p0:Sl)(p1:Sl)(V:View)(R:Value->View->Prop)(I0:Unit->L_nat_gcd_0->View->Prop)(E0:Unit->L_nat_gcd_0->View->Prop)(B0:Unit->L_nat_gcd_0->View->L_nat_gcd_0->View->Prop):Prop :=
 E0 () (L_nat_gcd_0.mk p0 p1) V /\
 (∀(x2:L_nat_gcd_0) (V1:View),View.le V V1->I0 () x2 V1 ->
 ((decide (((x2.t1.len:Int):Int)>0))=true ->
 CallV Try.prog 46 #[x2.t0.v,x2.t1.v] V1 λv V2=>∃(r1:Sl) (r2:Sl),v = .tuple #[r1.v,r2.v] /\
 B0 () (L_nat_gcd_0.mk x2.t1 r2) V2 x2 V1) /\
 ((decide (((x2.t1.len:Int):Int)>0))=false ->
 R (x2.t0.v) V1))
theorem nat_gcd_v0(p0:Sl)(p1:Sl)(V:View)(R:Value->View->Prop)(I0:Unit->L_nat_gcd_0->View->Prop)(J0:Unit->L_nat_gcd_0->View->Nat){X:Prop}(e:nat_gcd_sk p0 p1 V R I0 I0 (λc w V x U=>I0 c w V/\J0 c w V<J0 c x U)=X)(h:X) :
 CallV Try.prog 44 #[p0.v,p1.v] V R :=
 calls_of_vc (Shp:=Shp) hmixed Try.func44 (c:=Try.f44.body.getD .skip) (args:=[p0.v,p1.v]) (by kernel_rfl)
 (.seq (.reg [A 4 2]) (.seq (.block (.loop Unit L_nat_gcd_0 (λ_=>()) (λc x=>{ tm:=spT 19 0 [(0,.val x.t0.v),(1,.val x.t1.v)],own:=spO 19 0 [] }) I0 J0 (.seq (.seq (.reg [A 7 2,A 8 0,A 9 0]) (.cond .leaf .leaf)) (.block (.seq (.reg [A 11 2,A 12 2,A 13 10,A 10 2,A 14 0,A 15 0,A 5 2,A 6 2]) (.reg [A 16 2,A 17 2,A 0 2,A 1 2])))))) (.seq (.reg [A 18 2,A 4 2]) .leaf)))
 (Eq.mpr (by kernel_rfl) (show nat_gcd_sk p0 p1 V R I0 (λc w V=>∃x,nat_gcd_f0  c w x/\I0 c x V) (λc w V y U=>∃x,nat_gcd_f0  c w x/\I0 c x V/\J0 c x V<J0 c y U)from by
 have h:=Eq.mpr e h; unfold nat_gcd_sk at h ⊢; have Ee0:=λc w V (h:I0 c w V)=>(⟨w,⟨⟨rfl,rfl,trivial⟩,trivial⟩,h⟩:∃x,nat_gcd_f0  c w x/\I0 c x V); have Bb0:=λc w V y U (h:I0 c w V/\J0 c w V<J0 c y U)=>(⟨w,⟨⟨rfl,rfl,trivial⟩,trivial⟩,h⟩:∃x,nat_gcd_f0  c w x/\I0 c x V/\J0 c x V<J0 c y U); exact⟨(Ee0 _ _ _ h.1),λx2 V1 h4 h5=>⟨λh3=>(CallV.mono ((h.2 x2 V1 h4 h5).1 h3) (λ_ _ _ ⟨r1,r2,h2,h1⟩=>⟨r1,r2,h2,(Bb0 _ _ _ _ _ h1)⟩)),λh3=>((h.2 x2 V1 h4 h5).2 h3)⟩⟩))
theorem nat_gcd_vc:type_of% (λp0 p1 V R I0 J0=>nat_gcd_v0 p0 p1 V R I0 J0 (nat_gcd_sk.eq_1 ..)):=λp0 p1 V R I0 J0=>nat_gcd_v0 p0 p1 V R I0 J0 (nat_gcd_sk.eq_1 ..)
