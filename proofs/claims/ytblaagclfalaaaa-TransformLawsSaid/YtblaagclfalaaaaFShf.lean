/- Part of the proof; it has the parts FShf. -/
import Derived.Test.YtblaagclfalaaaaFStage
set_option maxRecDepth 100000
set_option maxHeartbeats 4000000
namespace Go.Proofs.Ytblaagclfalaaaa
open Go Go.Vc Go.Proofs
open Go.IntKind (i8 i16 i32 i64 u8 u16 u32 u64)
structure L_transform_Shift_num_Num__0 where(t17:Int)(o14:List Value)
def transform_Shift_num_Num__f0(p0:Sl)(p1:Int)(_c:Unit)(w x:L_transform_Shift_num_Num__0):Prop:=(Q1 (.val p0.v)/\Q1 (.val (.int .i64 p1))/\Q1 (.val (.int .i64 (p0.len:Int)))/\Q1 (.osl 14 0 (Int.toNat (p0.len:Int)) (Int.toNat (p0.len:Int)))/\Q1 (.val (.int .i64 (p0.len:Int)))/\E2 (.val (.int .i64 w.t17)) (.val (.int .i64 x.t17))/\True)/\(O2 ⟨34,.dyn w.o14⟩ ⟨34,.dyn x.o14⟩/\True)
def transform_Shift_num_Num__sk(p0:Sl)(p1:Int)(V:View)(R:Value->View->Prop)(I0:Unit->L_transform_Shift_num_Num__0->View->Prop)(E0:Unit->L_transform_Shift_num_Num__0->View->Prop)(B0:Unit->L_transform_Shift_num_Num__0->View->L_transform_Shift_num_Num__0->View->Prop):Prop :=
 ((decide (((p0.len:Int):Int)>64))=true ->
 R (.tuple #[(Sl.mk none 0 0).v,.int .i64 4]) V) /\
 ((decide (((p0.len:Int):Int)>64))=false ->
 ((0:Int)<=(p0.len:Int)/\((p0.len:Int):Int)<=(p0.len:Int)/\(88:Int)*(p0.len:Int)<=281474976710656/\((p0.len:Int):Int)<=9223372036854775807) /\
 E0 () (L_transform_Shift_num_Num__0.mk 0 ((List.replicate (Int.toNat (p0.len:Int)) [Value.bool false,Value.slice none 0 0,Value.bool false,Value.slice none 0 0,Value.slice none 0 0]).flatten)) V /\
 (∀(x2:L_transform_Shift_num_Num__0) (V1:View),View.le V V1->I0 () x2 V1 ->
 ((decide ((x2.t17:Int)<(p0.len:Int)))=true ->
 ((p0.len:Int):Int)≠0 /\
 ((p0.len:Int):Int)≠0 /\
 ((0:Int)<=x2.t17/\(x2.t17:Int)<(p0.len:Nat)/\Option.isSome p0.a=true) /\
 ∃x3:NumV,View.has V1 (Option.map (λq=>Addr.add q (Int.toNat x2.t17*5)) p0.a) (x3.val).cells.toList/\Option.isSome (Option.map (λq=>Addr.add q (Int.toNat x2.t17*5)) p0.a)=true /\
 ((0:Int)<=(Int.tmod (i64.wrap ((i64.wrap (x2.t17+(Int.tmod p1 (p0.len:Int))))+(p0.len:Int))) (p0.len:Int))/\((Int.tmod (i64.wrap ((i64.wrap (x2.t17+(Int.tmod p1 (p0.len:Int))))+(p0.len:Int))) (p0.len:Int)):Int)<(Int.toNat (p0.len:Int):Nat)) /\
 0+Int.toNat (Int.tmod (i64.wrap ((i64.wrap (x2.t17+(Int.tmod p1 (p0.len:Int))))+(p0.len:Int))) (p0.len:Int))*5+5<=List.length x2.o14 /\
 B0 () (L_transform_Shift_num_Num__0.mk (i64.wrap (x2.t17+1)) (setL x2.o14 (0+Int.toNat (Int.tmod (i64.wrap ((i64.wrap (x2.t17+(Int.tmod p1 (p0.len:Int))))+(p0.len:Int))) (p0.len:Int))*5) [.bool x3.re.neg,x3.re.mag.v,.bool x3.im.neg,x3.im.mag.v,x3.under.v])) V1 x2 V1) /\
 ((decide ((x2.t17:Int)<(p0.len:Int)))=false ->
 ∀(b1:Nat) (V2:View),View.le V1 V2->V2 b1=some (List.toArray x2.o14) ->
 R (.tuple #[(Sl.mk (some (Addr.mk b1 0 none)) (Int.toNat (p0.len:Int)) (Int.toNat (p0.len:Int))).v,.int .i64 0]) V2)))
theorem transform_Shift_num_Num__v0(p0:Sl)(p1:Int)(V:View)(R:Value->View->Prop)(I0:Unit->L_transform_Shift_num_Num__0->View->Prop)(J0:Unit->L_transform_Shift_num_Num__0->View->Nat){X:Prop}(e:transform_Shift_num_Num__sk p0 p1 V R I0 I0 (λc w V x U=>I0 c w V/\J0 c w V<J0 c x U)=X)(h:X) :
 CallV Try.prog 14 #[p0.v,.int .i64 p1] V R :=
 calls_of_vc (Shp:=Shp) hmixed Try.func14 (c:=Try.f14.body.getD .skip) (args:=[p0.v,.int .i64 p1]) (by kernel_rfl)
 (.seq (.reg [A 4 2,A 5 2]) (.seq (.reg [A 9 2,A 10 0,A 6 2]) (.seq (.seq (.reg [A 11 2,A 12 0]) (.cond (.seq (.reg [A 4 2,A 5 2]) .leaf) .leaf)) (.seq (.reg [A 13 2,A 14 3,A 7 2]) (.seq (.seq (.reg [A 15 2,A 16 0,A 17 2]) (.block (.loop Unit L_transform_Shift_num_Num__0 (λ_=>()) (λc x=>{ tm:=spT 37 0 [(0,.val p0.v),(1,.val (.int .i64 p1)),(6,.val (.int .i64 (p0.len:Int))),(7,.osl 14 0 (Int.toNat (p0.len:Int)) (Int.toNat (p0.len:Int))),(16,.val (.int .i64 (p0.len:Int))),(17,.val (.int .i64 x.t17))],own:=spO 37 0 [(14,⟨34,.dyn x.o14⟩)] }) I0 J0 (.seq (.reg [A 18 0]) (.seq (.cond .leaf .leaf) (.seq (.block (.seq (.reg [A 19 2,A 8 2]) (.draw [(0,A 20 2),(1,A 21 2),(2,A 22 2),(3,A 23 2),(4,A 24 12),(5,A 25 0),(6,A 26 2),(7,A 27 0),(8,A 28 2),(9,A 29 12),(10,A 30 2),(11,A 31 2),(12,A 32 7),(13,A 33 5),(14,A 34 7),(15,A 14 6)] [0,0,0,0,12,30,0,126,0,510,0,0,3072,7168,16383,32767]))) (.reg [A 35 0,A 17 2]))))))) (.seq (.reg [A 36 2,A 4 2,A 5 2]) (.pub 14 .leaf)))))))
 (Eq.mpr (by kernel_rfl) (show transform_Shift_num_Num__sk p0 p1 V R I0 (λc w V=>∃x,transform_Shift_num_Num__f0 p0 p1 c w x/\I0 c x V) (λc w V y U=>∃x,transform_Shift_num_Num__f0 p0 p1 c w x/\I0 c x V/\J0 c x V<J0 c y U)from by
 have h:=Eq.mpr e h; unfold transform_Shift_num_Num__sk at h ⊢; have Ee0:=λc w V (h:I0 c w V)=>(⟨w,⟨⟨rfl,rfl,rfl,rfl,rfl,rfl,trivial⟩,⟨rfl,trivial⟩⟩,h⟩:∃x,transform_Shift_num_Num__f0 p0 p1 c w x/\I0 c x V); have Bb0:=λc w V y U (h:I0 c w V/\J0 c w V<J0 c y U)=>(⟨w,⟨⟨rfl,rfl,rfl,rfl,rfl,rfl,trivial⟩,⟨rfl,trivial⟩⟩,h⟩:∃x,transform_Shift_num_Num__f0 p0 p1 c w x/\I0 c x V/\J0 c x V<J0 c y U); exact⟨λh9=>(h.1 h9),λh9=>⟨(h.2 h9).1,⟨(Ee0 _ _ _ (h.2 h9).2.1),λx2 V1 h7 h8=>⟨λh6=>⟨(((h.2 h9).2.2 x2 V1 h7 h8).1 h6).1,⟨(((h.2 h9).2.2 x2 V1 h7 h8).1 h6).2.1,⟨(((h.2 h9).2.2 x2 V1 h7 h8).1 h6).2.2.1,(match (((h.2 h9).2.2 x2 V1 h7 h8).1 h6).2.2.2 with|⟨x3,h2,h3,h1⟩=>⟨x3,h2,h3,⟨h1.1,⟨h1.2.1,(Bb0 _ _ _ _ _ h1.2.2)⟩⟩⟩)⟩⟩⟩,λh6=>(λb1 V2 h4 h5=>((((h.2 h9).2.2 x2 V1 h7 h8).2 h6) b1 V2 h4 h5))⟩⟩⟩⟩))
theorem transform_Shift_num_Num__vc:type_of% (λp0 p1 V R I0 J0=>transform_Shift_num_Num__v0 p0 p1 V R I0 J0 (transform_Shift_num_Num__sk.eq_1 ..)):=λp0 p1 V R I0 J0=>transform_Shift_num_Num__v0 p0 p1 V R I0 J0 (transform_Shift_num_Num__sk.eq_1 ..)
