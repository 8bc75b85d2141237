/- Part of the proof; it has the parts FGate. -/
import Derived.Test.YtblaagclfalaaaaFLng
set_option maxRecDepth 100000
set_option maxHeartbeats 4000000
namespace Go.Proofs.Ytblaagclfalaaaa
open Go Go.Vc Go.Proofs
open Go.IntKind (i8 i16 i32 i64 u8 u16 u32 u64)
structure L_waveportlaw07_plus_0 where(t12:Int)(o9:List Value)
def waveportlaw07_plus_f0(p0:Sl)(p1:Sl)(_c:Unit)(w x:L_waveportlaw07_plus_0):Prop:=(Q1 (.val p0.v)/\Q1 (.val p1.v)/\Q1 (.osl 9 0 (Int.toNat (p0.len:Int)) (Int.toNat (p0.len:Int)))/\Q1 (.val (.int .i64 ((Int.toNat (p0.len:Int):Nat):Int)))/\E2 (.val (.int .i64 w.t12)) (.val (.int .i64 x.t12))/\True)/\(O2 ⟨34,.dyn w.o9⟩ ⟨34,.dyn x.o9⟩/\True)
def waveportlaw07_plus_sk(p0:Sl)(p1:Sl)(V:View)(R:Value->View->Prop)(I0:Unit->L_waveportlaw07_plus_0->View->Prop)(E0:Unit->L_waveportlaw07_plus_0->View->Prop)(B0:Unit->L_waveportlaw07_plus_0->View->L_waveportlaw07_plus_0->View->Prop):Prop :=
 ((0:Int)<=(p0.len:Int)/\((p0.len:Int):Int)<=(p0.len:Int)/\(88:Int)*(p0.len:Int)<=281474976710656/\((p0.len:Int):Int)<=9223372036854775807) /\
 E0 () (L_waveportlaw07_plus_0.mk 0 ((List.replicate (Int.toNat (p0.len:Int)) [Value.bool false,Value.slice none 0 0,Value.bool false,Value.slice none 0 0,Value.slice none 0 0]).flatten)) V /\
 (∀(x2:L_waveportlaw07_plus_0) (V1:View),View.le V V1->I0 () x2 V1 ->
 ((decide ((x2.t12:Int)<((Int.toNat (p0.len:Int):Nat):Int)))=true ->
 ((0:Int)<=x2.t12/\(x2.t12:Int)<(p0.len:Nat)/\Option.isSome p0.a=true) /\
 ∃x3:NumV,View.has V1 (Option.map (λq=>Addr.add q (Int.toNat x2.t12*5)) p0.a) (x3.val).cells.toList/\Option.isSome (Option.map (λq=>Addr.add q (Int.toNat x2.t12*5)) p0.a)=true /\
 ((p1.len:Int):Int)≠0 /\
 ((0:Int)<=(Int.tmod x2.t12 (p1.len:Int))/\((Int.tmod x2.t12 (p1.len:Int)):Int)<(p1.len:Nat)/\Option.isSome p1.a=true) /\
 ∃x4:NumV,View.has V1 (Option.map (λq=>Addr.add q (Int.toNat (Int.tmod x2.t12 (p1.len:Int))*5)) p1.a) (x4.val).cells.toList/\Option.isSome (Option.map (λq=>Addr.add q (Int.toNat (Int.tmod x2.t12 (p1.len:Int))*5)) p1.a)=true /\
 CallV Try.prog 20 #[x3.val,x4.val] V1 λv V2=>∃r1:NumV,v=r1.val /\
 ((0:Int)<=x2.t12/\(x2.t12:Int)<(Int.toNat (p0.len:Int):Nat)) /\
 0+Int.toNat x2.t12*5+5<=List.length x2.o9 /\
 B0 () (L_waveportlaw07_plus_0.mk (i64.wrap (x2.t12+1)) (setL x2.o9 (0+Int.toNat x2.t12*5) [.bool r1.re.neg,r1.re.mag.v,.bool r1.im.neg,r1.im.mag.v,r1.under.v])) V2 x2 V1) /\
 ((decide ((x2.t12:Int)<((Int.toNat (p0.len:Int):Nat):Int)))=false ->
 ∀(b1:Nat) (V3:View),View.le V1 V3->V3 b1=some (List.toArray x2.o9) ->
 R ((Sl.mk (some (Addr.mk b1 0 none)) (Int.toNat (p0.len:Int)) (Int.toNat (p0.len:Int))).v) V3))
theorem waveportlaw07_plus_v0(p0:Sl)(p1:Sl)(V:View)(R:Value->View->Prop)(I0:Unit->L_waveportlaw07_plus_0->View->Prop)(J0:Unit->L_waveportlaw07_plus_0->View->Nat){X:Prop}(e:waveportlaw07_plus_sk p0 p1 V R I0 I0 (λc w V x U=>I0 c w V/\J0 c w V<J0 c x U)=X)(h:X) :
 CallV Try.prog 6 #[p0.v,p1.v] V R :=
 calls_of_vc (Shp:=Shp) hmixed Try.func6 (c:=Try.f6.body.getD .skip) (args:=[p0.v,p1.v]) (by kernel_rfl)
 (.seq (.reg [A 4 2]) (.seq (.reg [A 7 2,A 8 0,A 9 3,A 5 2]) (.seq (.seq (.reg [A 10 2,A 11 7,A 12 2]) (.block (.loop Unit L_waveportlaw07_plus_0 (λ_=>()) (λc x=>{ tm:=spT 32 0 [(0,.val p0.v),(1,.val p1.v),(5,.osl 9 0 (Int.toNat (p0.len:Int)) (Int.toNat (p0.len:Int))),(11,.val (.int .i64 ((Int.toNat (p0.len:Int):Nat):Int))),(12,.val (.int .i64 x.t12))],own:=spO 32 0 [(9,⟨34,.dyn x.o9⟩)] }) I0 J0 (.seq (.reg [A 13 0]) (.seq (.cond .leaf .leaf) (.seq (.block (.seq (.reg [A 14 2,A 6 2]) (.draw [(0,A 15 2),(1,A 16 2),(2,A 17 2),(3,A 18 2),(4,A 19 7),(5,A 20 5),(6,A 21 2),(7,A 22 2),(8,A 23 2),(9,A 24 0),(10,A 25 12),(11,A 26 7),(12,A 27 5),(13,A 28 10),(14,A 29 7),(15,A 9 6)] [0,0,0,0,12,28,0,0,0,256,896,1984,4032,8188,16383,32767]))) (.reg [A 30 0,A 12 2]))))))) (.seq (.reg [A 31 2,A 4 2]) (.pub 9 .leaf)))))
 (Eq.mpr (by kernel_rfl) (show waveportlaw07_plus_sk p0 p1 V R I0 (λc w V=>∃x,waveportlaw07_plus_f0 p0 p1 c w x/\I0 c x V) (λc w V y U=>∃x,waveportlaw07_plus_f0 p0 p1 c w x/\I0 c x V/\J0 c x V<J0 c y U)from by
 have h:=Eq.mpr e h; unfold waveportlaw07_plus_sk at h ⊢; have Ee0:=λc w V (h:I0 c w V)=>(⟨w,⟨⟨rfl,rfl,rfl,rfl,rfl,trivial⟩,⟨rfl,trivial⟩⟩,h⟩:∃x,waveportlaw07_plus_f0 p0 p1 c w x/\I0 c x V); have Bb0:=λc w V y U (h:I0 c w V/\J0 c w V<J0 c y U)=>(⟨w,⟨⟨rfl,rfl,rfl,rfl,rfl,trivial⟩,⟨rfl,trivial⟩⟩,h⟩:∃x,waveportlaw07_plus_f0 p0 p1 c w x/\I0 c x V/\J0 c x V<J0 c y U); exact⟨h.1,⟨(Ee0 _ _ _ h.2.1),λx2 V1 h12 h13=>⟨λh11=>⟨((h.2.2 x2 V1 h12 h13).1 h11).1,(match ((h.2.2 x2 V1 h12 h13).1 h11).2 with|⟨x3,h7,h8,h6⟩=>⟨x3,h7,h8,⟨h6.1,⟨h6.2.1,(match h6.2.2 with|⟨x4,h4,h5,h3⟩=>⟨x4,h4,h5,(CallV.mono h3 (λ_ _ _ ⟨r1,h2,h1⟩=>⟨r1,h2,⟨h1.1,⟨h1.2.1,(Bb0 _ _ _ _ _ h1.2.2)⟩⟩⟩))⟩)⟩⟩⟩)⟩,λh11=>(λb1 V3 h9 h10=>(((h.2.2 x2 V1 h12 h13).2 h11) b1 V3 h9 h10))⟩⟩⟩))
theorem waveportlaw07_plus_vc:type_of% (λp0 p1 V R I0 J0=>waveportlaw07_plus_v0 p0 p1 V R I0 J0 (waveportlaw07_plus_sk.eq_1 ..)):=λp0 p1 V R I0 J0=>waveportlaw07_plus_v0 p0 p1 V R I0 J0 (waveportlaw07_plus_sk.eq_1 ..)
