/- Part of the proof; it has the parts FLng. -/
import Derived.Test.YtblaagclfalaaaaFFor
set_option maxRecDepth 100000
set_option maxHeartbeats 4000000
namespace Go.Proofs.Ytblaagclfalaaaa
open Go Go.Vc Go.Proofs
open Go.IntKind (i8 i16 i32 i64 u8 u16 u32 u64)
theorem transform_listed_num_Num_num_Num__vc(p0:Sl)(p1:Sl)(V:View)(R:Value->View->Prop)
 (h :
 ((((p0.len:Int):Int)==(p1.len:Int))=true ->
 R (.bool (decide (((p0.len:Int):Int)<=64))) V) /\
 ((((p0.len:Int):Int)==(p1.len:Int))=false ->
 R (.bool false) V)) :
 CallV Try.prog 31 #[p0.v,p1.v] V R :=
 calls_of_vc (Shp:=Shp) hmixed Try.func31 (c:=Try.f31.body.getD .skip) (args:=[p0.v,p1.v]) (by kernel_rfl)
 (.seq (.reg [A 4 2]) (.seq (.reg [A 5 2,A 6 0,A 7 2,A 8 0,A 9 0,⟨10,2,true⟩,A 11 2,A 12 0,A 13 0,A 14 2,A 4 2]) .leaf))
 (Eq.mpr (by kernel_rfl) h)
structure L_transform_Times_num_Num__0 where(t17:Int)(o14:List Value)
def transform_Times_num_Num__f0(p0:Sl)(p1:Sl)(_c:Unit)(w x:L_transform_Times_num_Num__0):Prop:=(Q1 (.val p0.v)/\Q1 (.val p1.v)/\Q1 (.osl 14 0 (Int.toNat (p0.len:Int)) (Int.toNat (p0.len:Int)))/\Q1 (.val (.int .i64 (p0.len:Int)))/\E2 (.val (.int .i64 w.t17)) (.val (.int .i64 x.t17))/\True)/\(O2 ⟨34,.dyn w.o14⟩ ⟨34,.dyn x.o14⟩/\True)
def transform_Times_num_Num__sk(p0:Sl)(p1:Sl)(V:View)(R:Value->View->Prop)(I0:Unit->L_transform_Times_num_Num__0->View->Prop)(E0:Unit->L_transform_Times_num_Num__0->View->Prop)(B0:Unit->L_transform_Times_num_Num__0->View->L_transform_Times_num_Num__0->View->Prop):Prop :=
 CallV Try.prog 31 #[p0.v,p1.v] V λv V1=>∃r1:Bool,v = .bool r1 /\
 ((!r1)=true ->
 R (.tuple #[(Sl.mk none 0 0).v,.int .i64 4]) V1) /\
 ((!r1)=false ->
 ((0:Int)<=(p0.len:Int)/\((p0.len:Int):Int)<=(p0.len:Int)/\(88:Int)*(p0.len:Int)<=281474976710656/\((p0.len:Int):Int)<=9223372036854775807) /\
 E0 () (L_transform_Times_num_Num__0.mk 0 ((List.replicate (Int.toNat (p0.len:Int)) [Value.bool false,Value.slice none 0 0,Value.bool false,Value.slice none 0 0,Value.slice none 0 0]).flatten)) V1 /\
 (∀(x2:L_transform_Times_num_Num__0) (V2:View),View.le V1 V2->I0 () x2 V2 ->
 ((decide ((x2.t17:Int)<(p0.len:Int)))=true ->
 ((0:Int)<=x2.t17/\(x2.t17:Int)<(p0.len:Nat)/\Option.isSome p0.a=true) /\
 ∃x3:NumV,View.has V2 (Option.map (λq=>Addr.add q (Int.toNat x2.t17*5)) p0.a) (x3.val).cells.toList/\Option.isSome (Option.map (λq=>Addr.add q (Int.toNat x2.t17*5)) p0.a)=true /\
 ((0:Int)<=x2.t17/\(x2.t17:Int)<(p1.len:Nat)/\Option.isSome p1.a=true) /\
 ∃x4:NumV,View.has V2 (Option.map (λq=>Addr.add q (Int.toNat x2.t17*5)) p1.a) (x4.val).cells.toList/\Option.isSome (Option.map (λq=>Addr.add q (Int.toNat x2.t17*5)) p1.a)=true /\
 CallV Try.prog 10 #[x3.val,x4.val] V2 λv V3=>∃r2:NumV,v=r2.val /\
 ((0:Int)<=x2.t17/\(x2.t17:Int)<(Int.toNat (p0.len:Int):Nat)) /\
 0+Int.toNat x2.t17*5+5<=List.length x2.o14 /\
 B0 () (L_transform_Times_num_Num__0.mk (i64.wrap (x2.t17+1)) (setL x2.o14 (0+Int.toNat x2.t17*5) [.bool r2.re.neg,r2.re.mag.v,.bool r2.im.neg,r2.im.mag.v,r2.under.v])) V3 x2 V2) /\
 ((decide ((x2.t17:Int)<(p0.len:Int)))=false ->
 ∀(b1:Nat) (V4:View),View.le V2 V4->V4 b1=some (List.toArray x2.o14) ->
 R (.tuple #[(Sl.mk (some (Addr.mk b1 0 none)) (Int.toNat (p0.len:Int)) (Int.toNat (p0.len:Int))).v,.int .i64 0]) V4)))
theorem transform_Times_num_Num__v0(p0:Sl)(p1:Sl)(V:View)(R:Value->View->Prop)(I0:Unit->L_transform_Times_num_Num__0->View->Prop)(J0:Unit->L_transform_Times_num_Num__0->View->Nat){X:Prop}(e:transform_Times_num_Num__sk p0 p1 V R I0 I0 (λc w V x U=>I0 c w V/\J0 c w V<J0 c x U)=X)(h:X) :
 CallV Try.prog 13 #[p0.v,p1.v] V R :=
 calls_of_vc (Shp:=Shp) hmixed Try.func13 (c:=Try.f13.body.getD .skip) (args:=[p0.v,p1.v]) (by kernel_rfl)
 (.seq (.reg [A 4 2,A 5 2]) (.seq (.seq (.reg [A 8 2,A 9 2,A 10 10,A 11 0]) (.cond (.seq (.reg [A 4 2,A 5 2]) .leaf) .leaf)) (.seq (.reg [A 12 2,A 13 0,A 14 3,A 6 2]) (.seq (.seq (.reg [A 15 2,A 16 0,A 17 2]) (.block (.loop Unit L_transform_Times_num_Num__0 (λ_=>()) (λc x=>{ tm:=spT 35 0 [(0,.val p0.v),(1,.val p1.v),(6,.osl 14 0 (Int.toNat (p0.len:Int)) (Int.toNat (p0.len:Int))),(16,.val (.int .i64 (p0.len:Int))),(17,.val (.int .i64 x.t17))],own:=spO 35 0 [(14,⟨34,.dyn x.o14⟩)] }) I0 J0 (.seq (.reg [A 18 0]) (.seq (.cond .leaf .leaf) (.seq (.block (.seq (.reg [A 19 2,A 7 2]) (.draw [(0,A 20 2),(1,A 21 2),(2,A 22 2),(3,A 23 2),(4,A 24 7),(5,A 25 5),(6,A 26 0),(7,A 27 2),(8,A 28 2),(9,A 29 7),(10,A 30 5),(11,A 31 10),(12,A 32 7),(13,A 14 6)] [0,0,0,0,12,28,60,0,0,384,896,2044,4095,8191]))) (.reg [A 33 0,A 17 2]))))))) (.seq (.reg [A 34 2,A 4 2,A 5 2]) (.pub 14 .leaf))))))
 (Eq.mpr (by kernel_rfl) (show transform_Times_num_Num__sk p0 p1 V R I0 (λc w V=>∃x,transform_Times_num_Num__f0 p0 p1 c w x/\I0 c x V) (λc w V y U=>∃x,transform_Times_num_Num__f0 p0 p1 c w x/\I0 c x V/\J0 c x V<J0 c y U)from by
 have h:=Eq.mpr e h; unfold transform_Times_num_Num__sk at h ⊢; have Ee0:=λc w V (h:I0 c w V)=>(⟨w,⟨⟨rfl,rfl,rfl,rfl,rfl,trivial⟩,⟨rfl,trivial⟩⟩,h⟩:∃x,transform_Times_num_Num__f0 p0 p1 c w x/\I0 c x V); have Bb0:=λc w V y U (h:I0 c w V/\J0 c w V<J0 c y U)=>(⟨w,⟨⟨rfl,rfl,rfl,rfl,rfl,trivial⟩,⟨rfl,trivial⟩⟩,h⟩:∃x,transform_Times_num_Num__f0 p0 p1 c w x/\I0 c x V/\J0 c x V<J0 c y U); exact(CallV.mono h (λ_ _ _ ⟨r1,h16,h15⟩=>⟨r1,h16,⟨λh14=>(h15.1 h14),λh14=>⟨(h15.2 h14).1,⟨(Ee0 _ _ _ (h15.2 h14).2.1),λx2 V2 h12 h13=>⟨λh11=>⟨(((h15.2 h14).2.2 x2 V2 h12 h13).1 h11).1,(match (((h15.2 h14).2.2 x2 V2 h12 h13).1 h11).2 with|⟨x3,h7,h8,h6⟩=>⟨x3,h7,h8,⟨h6.1,(match h6.2 with|⟨x4,h4,h5,h3⟩=>⟨x4,h4,h5,(CallV.mono h3 (λ_ _ _ ⟨r2,h2,h1⟩=>⟨r2,h2,⟨h1.1,⟨h1.2.1,(Bb0 _ _ _ _ _ h1.2.2)⟩⟩⟩))⟩)⟩⟩)⟩,λh11=>(λb1 V4 h9 h10=>((((h15.2 h14).2.2 x2 V2 h12 h13).2 h11) b1 V4 h9 h10))⟩⟩⟩⟩⟩))))
theorem transform_Times_num_Num__vc:type_of% (λp0 p1 V R I0 J0=>transform_Times_num_Num__v0 p0 p1 V R I0 J0 (transform_Times_num_Num__sk.eq_1 ..)):=λp0 p1 V R I0 J0=>transform_Times_num_Num__v0 p0 p1 V R I0 J0 (transform_Times_num_Num__sk.eq_1 ..)
structure L_transform_Convolve_num_Num__0 where(t21:Int)(o18:List Value)
structure L_transform_Convolve_num_Num__1 where(t10:Int)(o9:NumV)(o18:List Value)
structure C_transform_Convolve_num_Num__1 where(t8 t21:Int)
def transform_Convolve_num_Num__f0(p0:Sl)(p1:Sl)(_c:Unit)(w x:L_transform_Convolve_num_Num__0):Prop:=(Q1 (.val p0.v)/\Q1 (.val p1.v)/\Q1 (.val (.int .i64 (p0.len:Int)))/\Q1 (.osl 18 0 (Int.toNat (p0.len:Int)) (Int.toNat (p0.len:Int)))/\Q1 (.val (.int .i64 ((Int.toNat (p0.len:Int):Nat):Int)))/\E2 (.val (.int .i64 w.t21)) (.val (.int .i64 x.t21))/\True)/\(O2 ⟨34,.dyn w.o18⟩ ⟨34,.dyn x.o18⟩/\True)
def transform_Convolve_num_Num__f1(p0:Sl)(p1:Sl)(c:C_transform_Convolve_num_Num__1)(w x:L_transform_Convolve_num_Num__1):Prop:=(Q1 (.val p0.v)/\Q1 (.val p1.v)/\Q1 (.val (.int .i64 (p0.len:Int)))/\Q1 (.osl 18 0 (Int.toNat (p0.len:Int)) (Int.toNat (p0.len:Int)))/\Q1 (.val (.int .i64 c.t8))/\Q1 (.own 9 0)/\E2 (.val (.int .i64 w.t10)) (.val (.int .i64 x.t10))/\Q1 (.val (.int .i64 ((Int.toNat (p0.len:Int):Nat):Int)))/\Q1 (.val (.int .i64 c.t21))/\True)/\(O2 ⟨34,.fixed [.val (.bool w.o9.re.neg),.val w.o9.re.mag.v,.val (.bool w.o9.im.neg),.val w.o9.im.mag.v,.val w.o9.under.v]⟩ ⟨34,.fixed [.val (.bool x.o9.re.neg),.val x.o9.re.mag.v,.val (.bool x.o9.im.neg),.val x.o9.im.mag.v,.val x.o9.under.v]⟩/\O2 ⟨34,.dyn w.o18⟩ ⟨34,.dyn x.o18⟩/\True)
def transform_Convolve_num_Num__sk(p0:Sl)(p1:Sl)(V:View)(R:Value->View->Prop)(I0:Unit->L_transform_Convolve_num_Num__0->View->Prop)(I1:C_transform_Convolve_num_Num__1->L_transform_Convolve_num_Num__1->View->Prop)(E0:Unit->L_transform_Convolve_num_Num__0->View->Prop)(B0:Unit->L_transform_Convolve_num_Num__0->View->L_transform_Convolve_num_Num__0->View->Prop)(E1:C_transform_Convolve_num_Num__1->L_transform_Convolve_num_Num__1->View->Prop)(B1:C_transform_Convolve_num_Num__1->L_transform_Convolve_num_Num__1->View->L_transform_Convolve_num_Num__1->View->Prop):Prop :=
 CallV Try.prog 31 #[p0.v,p1.v] V λv V1=>∃r1:Bool,v = .bool r1 /\
 ((!r1)=true ->
 R (.tuple #[(Sl.mk none 0 0).v,.int .i64 4]) V1) /\
 ((!r1)=false ->
 ((0:Int)<=(p0.len:Int)/\((p0.len:Int):Int)<=(p0.len:Int)/\(88:Int)*(p0.len:Int)<=281474976710656/\((p0.len:Int):Int)<=9223372036854775807) /\
 E0 () (L_transform_Convolve_num_Num__0.mk 0 ((List.replicate (Int.toNat (p0.len:Int)) [Value.bool false,Value.slice none 0 0,Value.bool false,Value.slice none 0 0,Value.slice none 0 0]).flatten)) V1 /\
 (∀(x2:L_transform_Convolve_num_Num__0) (V2:View),View.le V1 V2->I0 () x2 V2 ->
 ((decide ((x2.t21:Int)<((Int.toNat (p0.len:Int):Nat):Int)))=true ->
 ((0:Int)<=0/\(0:Int)<(p0.len:Nat)/\Option.isSome p0.a=true) /\
 ∃x3:NumV,View.has V2 (Option.map (λq=>Addr.add q (Int.toNat 0*5)) p0.a) (x3.val).cells.toList/\Option.isSome (Option.map (λq=>Addr.add q (Int.toNat 0*5)) p0.a)=true /\
 ((0:Int)<=x2.t21/\(x2.t21:Int)<(p1.len:Nat)/\Option.isSome p1.a=true) /\
 ∃x4:NumV,View.has V2 (Option.map (λq=>Addr.add q (Int.toNat x2.t21*5)) p1.a) (x4.val).cells.toList/\Option.isSome (Option.map (λq=>Addr.add q (Int.toNat x2.t21*5)) p1.a)=true /\
 CallV Try.prog 10 #[x3.val,x4.val] V2 λv V3=>∃r2:NumV,v=r2.val /\
 E1 (C_transform_Convolve_num_Num__1.mk x2.t21 x2.t21) (L_transform_Convolve_num_Num__1.mk 1 r2 x2.o18) V3 /\
 (∀(x6:L_transform_Convolve_num_Num__1) (V4:View),View.le V3 V4->I1 (C_transform_Convolve_num_Num__1.mk x2.t21 x2.t21) x6 V4 ->
 ((decide ((x6.t10:Int)<(p0.len:Int)))=true ->
 ((0:Int)<=x6.t10/\(x6.t10:Int)<(p0.len:Nat)/\Option.isSome p0.a=true) /\
 ∃x7:NumV,View.has V4 (Option.map (λq=>Addr.add q (Int.toNat x6.t10*5)) p0.a) (x7.val).cells.toList/\Option.isSome (Option.map (λq=>Addr.add q (Int.toNat x6.t10*5)) p0.a)=true /\
 ((p0.len:Int):Int)≠0 /\
 ((0:Int)<=(Int.tmod (i64.wrap ((i64.wrap (x2.t21-x6.t10))+(p0.len:Int))) (p0.len:Int))/\((Int.tmod (i64.wrap ((i64.wrap (x2.t21-x6.t10))+(p0.len:Int))) (p0.len:Int)):Int)<(p1.len:Nat)/\Option.isSome p1.a=true) /\
 ∃x8:NumV,View.has V4 (Option.map (λq=>Addr.add q (Int.toNat (Int.tmod (i64.wrap ((i64.wrap (x2.t21-x6.t10))+(p0.len:Int))) (p0.len:Int))*5)) p1.a) (x8.val).cells.toList/\Option.isSome (Option.map (λq=>Addr.add q (Int.toNat (Int.tmod (i64.wrap ((i64.wrap (x2.t21-x6.t10))+(p0.len:Int))) (p0.len:Int))*5)) p1.a)=true /\
 CallV Try.prog 10 #[x7.val,x8.val] V4 λv V5=>∃r3:NumV,v=r3.val /\
 CallV Try.prog 20 #[x6.o9.val,r3.val] V5 λv V6=>∃r4:NumV,v=r4.val /\
 B1 (C_transform_Convolve_num_Num__1.mk x2.t21 x2.t21) (L_transform_Convolve_num_Num__1.mk (i64.wrap (x6.t10+1)) r4 x6.o18) V6 x6 V4) /\
 ((decide ((x6.t10:Int)<(p0.len:Int)))=false ->
 ((0:Int)<=x2.t21/\(x2.t21:Int)<(Int.toNat (p0.len:Int):Nat)) /\
 0+Int.toNat x2.t21*5+5<=List.length x6.o18 /\
 B0 () (L_transform_Convolve_num_Num__0.mk (i64.wrap (x2.t21+1)) (setL x6.o18 (0+Int.toNat x2.t21*5) [.bool x6.o9.re.neg,x6.o9.re.mag.v,.bool x6.o9.im.neg,x6.o9.im.mag.v,x6.o9.under.v])) V4 x2 V2))) /\
 ((decide ((x2.t21:Int)<((Int.toNat (p0.len:Int):Nat):Int)))=false ->
 ∀(b1:Nat) (V7:View),View.le V2 V7->V7 b1=some (List.toArray x2.o18) ->
 R (.tuple #[(Sl.mk (some (Addr.mk b1 0 none)) (Int.toNat (p0.len:Int)) (Int.toNat (p0.len:Int))).v,.int .i64 0]) V7)))
theorem transform_Convolve_num_Num__v0(p0:Sl)(p1:Sl)(V:View)(R:Value->View->Prop)(I0:Unit->L_transform_Convolve_num_Num__0->View->Prop)(J0:Unit->L_transform_Convolve_num_Num__0->View->Nat)(I1:C_transform_Convolve_num_Num__1->L_transform_Convolve_num_Num__1->View->Prop)(J1:C_transform_Convolve_num_Num__1->L_transform_Convolve_num_Num__1->View->Nat){X:Prop}(e:transform_Convolve_num_Num__sk p0 p1 V R I0 I1 I0 (λc w V x U=>I0 c w V/\J0 c w V<J0 c x U) I1 (λc w V x U=>I1 c w V/\J1 c w V<J1 c x U)=X)(h:X) :
 CallV Try.prog 12 #[p0.v,p1.v] V R :=
 calls_of_vc (Shp:=Shp) hmixed Try.func12 (c:=Try.f12.body.getD .skip) (args:=[p0.v,p1.v]) (by kernel_rfl)
 (.seq (.reg [A 4 2,A 5 2]) (.seq (.seq (.reg [A 11 2,A 12 2,A 13 10,A 14 0]) (.cond (.seq (.reg [A 4 2,A 5 2]) .leaf) .leaf)) (.seq (.reg [A 15 2,A 16 0,A 6 2]) (.seq (.reg [A 17 2,A 18 3,A 7 2]) (.seq (.seq (.reg [A 19 2,A 20 7,A 21 2]) (.block (.loop Unit L_transform_Convolve_num_Num__0 (λ_=>()) (λc x=>{ tm:=spT 63 0 [(0,.val p0.v),(1,.val p1.v),(6,.val (.int .i64 (p0.len:Int))),(7,.osl 18 0 (Int.toNat (p0.len:Int)) (Int.toNat (p0.len:Int))),(20,.val (.int .i64 ((Int.toNat (p0.len:Int):Nat):Int))),(21,.val (.int .i64 x.t21))],own:=spO 63 0 [(18,⟨34,.dyn x.o18⟩)] }) I0 J0 (.seq (.reg [A 22 0]) (.seq (.cond .leaf .leaf) (.seq (.block (.seq (.reg [A 23 2,A 8 2]) (.seq (.draw [(0,A 24 2),(1,A 25 7),(2,A 26 5),(3,A 27 0),(4,A 28 2),(5,A 29 2),(6,A 30 7),(7,A 31 5),(9,A 9 3),(8,A 32 10),(10,A 9 6)] [0,1,3,7,0,0,48,112,255,0,1023]) (.seq (.seq (.reg [A 10 2]) (.block (.loop C_transform_Convolve_num_Num__1 L_transform_Convolve_num_Num__1 (λσ=>C_transform_Convolve_num_Num__1.mk (gInt (gTm σ 8)) (gInt (gTm σ 21))) (λc x=>{ tm:=spT 63 0 [(0,.val p0.v),(1,.val p1.v),(6,.val (.int .i64 (p0.len:Int))),(7,.osl 18 0 (Int.toNat (p0.len:Int)) (Int.toNat (p0.len:Int))),(8,.val (.int .i64 c.t8)),(9,.own 9 0),(10,.val (.int .i64 x.t10)),(20,.val (.int .i64 ((Int.toNat (p0.len:Int):Nat):Int))),(21,.val (.int .i64 c.t21))],own:=spO 63 0 [(9,⟨34,.fixed [.val (.bool x.o9.re.neg),.val x.o9.re.mag.v,.val (.bool x.o9.im.neg),.val x.o9.im.mag.v,.val x.o9.under.v]⟩),(18,⟨34,.dyn x.o18⟩)] }) I1 J1 (.seq (.seq (.reg [A 33 2,A 34 2,A 35 0]) (.cond .leaf .leaf)) (.seq (.block (.draw [(0,A 9 4),(1,A 39 0),(2,A 40 2),(3,A 41 2),(4,A 42 7),(5,A 43 5),(6,A 44 0),(7,A 45 2),(8,A 46 2),(9,A 47 2),(10,A 48 0),(11,A 49 2),(12,A 50 0),(13,A 51 2),(14,A 52 12),(15,A 53 7),(16,A 54 5),(17,A 55 10),(18,A 56 10),(19,A 9 6)] [0,1,0,0,12,28,60,0,0,0,768,0,3840,0,16128,32640,65408,131068,262143,524287])) (.reg [A 36 2,A 37 0,A 10 2])))))) (.reg [A 57 2,A 58 2,A 9 4,A 60 7,A 18 6]))))) (.reg [A 61 0,A 21 2]))))))) (.seq (.reg [A 62 2,A 4 2,A 5 2]) (.pub 18 .leaf)))))))
 (Eq.mpr (by kernel_rfl) (show transform_Convolve_num_Num__sk p0 p1 V R I0 I1 (λc w V=>∃x,transform_Convolve_num_Num__f0 p0 p1 c w x/\I0 c x V) (λc w V y U=>∃x,transform_Convolve_num_Num__f0 p0 p1 c w x/\I0 c x V/\J0 c x V<J0 c y U) (λc w V=>∃x,transform_Convolve_num_Num__f1 p0 p1 c w x/\I1 c x V) (λc w V y U=>∃x,transform_Convolve_num_Num__f1 p0 p1 c w x/\I1 c x V/\J1 c x V<J1 c y U)from by
 have h:=Eq.mpr e h; unfold transform_Convolve_num_Num__sk at h ⊢; have Ee0:=λc w V (h:I0 c w V)=>(⟨w,⟨⟨rfl,rfl,rfl,rfl,rfl,rfl,trivial⟩,⟨rfl,trivial⟩⟩,h⟩:∃x,transform_Convolve_num_Num__f0 p0 p1 c w x/\I0 c x V); have Bb0:=λc w V y U (h:I0 c w V/\J0 c w V<J0 c y U)=>(⟨w,⟨⟨rfl,rfl,rfl,rfl,rfl,rfl,trivial⟩,⟨rfl,trivial⟩⟩,h⟩:∃x,transform_Convolve_num_Num__f0 p0 p1 c w x/\I0 c x V/\J0 c x V<J0 c y U); have Ee1:=λc w V (h:I1 c w V)=>(⟨w,⟨⟨rfl,rfl,rfl,rfl,rfl,rfl,rfl,rfl,rfl,trivial⟩,⟨rfl,rfl,trivial⟩⟩,h⟩:∃x,transform_Convolve_num_Num__f1 p0 p1 c w x/\I1 c x V); have Bb1:=λc w V y U (h:I1 c w V/\J1 c w V<J1 c y U)=>(⟨w,⟨⟨rfl,rfl,rfl,rfl,rfl,rfl,rfl,rfl,rfl,trivial⟩,⟨rfl,rfl,trivial⟩⟩,h⟩:∃x,transform_Convolve_num_Num__f1 p0 p1 c w x/\I1 c x V/\J1 c x V<J1 c y U); exact(CallV.mono h (λ_ _ _ ⟨r1,h29,h28⟩=>⟨r1,h29,⟨λh27=>(h28.1 h27),λh27=>⟨(h28.2 h27).1,⟨(Ee0 _ _ _ (h28.2 h27).2.1),λx2 V2 h25 h26=>⟨λh24=>⟨(((h28.2 h27).2.2 x2 V2 h25 h26).1 h24).1,(match (((h28.2 h27).2.2 x2 V2 h25 h26).1 h24).2 with|⟨x3,h20,h21,h19⟩=>⟨x3,h20,h21,⟨h19.1,(match h19.2 with|⟨x4,h17,h18,h16⟩=>⟨x4,h17,h18,(CallV.mono h16 (λ_ _ _ ⟨r2,h15,h14⟩=>⟨r2,h15,⟨(Ee1 _ _ _ h14.1),λx6 V4 h12 h13=>⟨λh11=>⟨((h14.2 x6 V4 h12 h13).1 h11).1,(match ((h14.2 x6 V4 h12 h13).1 h11).2 with|⟨x7,h9,h10,h8⟩=>⟨x7,h9,h10,⟨h8.1,⟨h8.2.1,(match h8.2.2 with|⟨x8,h6,h7,h5⟩=>⟨x8,h6,h7,(CallV.mono h5 (λ_ _ _ ⟨r3,h4,h3⟩=>⟨r3,h4,(CallV.mono h3 (λ_ _ _ ⟨r4,h2,h1⟩=>⟨r4,h2,(Bb1 _ _ _ _ _ h1)⟩))⟩))⟩)⟩⟩⟩)⟩,λh11=>⟨((h14.2 x6 V4 h12 h13).2 h11).1,⟨((h14.2 x6 V4 h12 h13).2 h11).2.1,(Bb0 _ _ _ _ _ ((h14.2 x6 V4 h12 h13).2 h11).2.2)⟩⟩⟩⟩⟩))⟩)⟩⟩)⟩,λh24=>(λb1 V7 h22 h23=>((((h28.2 h27).2.2 x2 V2 h25 h26).2 h24) b1 V7 h22 h23))⟩⟩⟩⟩⟩))))
theorem transform_Convolve_num_Num__vc:type_of% (λp0 p1 V R I0 J0 I1 J1=>transform_Convolve_num_Num__v0 p0 p1 V R I0 J0 I1 J1 (transform_Convolve_num_Num__sk.eq_1 ..)):=λp0 p1 V R I0 J0 I1 J1=>transform_Convolve_num_Num__v0 p0 p1 V R I0 J0 I1 J1 (transform_Convolve_num_Num__sk.eq_1 ..)
structure L_transform_Energy_num_Num__0 where(t18:Int)(o2 o4:NumV)
def transform_Energy_num_Num__f0(p0:Sl)(_c:Unit)(w x:L_transform_Energy_num_Num__0):Prop:=(Q1 (.own 2 0)/\Q1 (.own 4 0)/\Q1 (.val p0.v)/\Q1 (.val (.int .i64 (p0.len:Int)))/\E2 (.val (.int .i64 w.t18)) (.val (.int .i64 x.t18))/\True)/\(O2 ⟨34,.fixed [.val (.bool w.o2.re.neg),.val w.o2.re.mag.v,.val (.bool w.o2.im.neg),.val w.o2.im.mag.v,.val w.o2.under.v]⟩ ⟨34,.fixed [.val (.bool x.o2.re.neg),.val x.o2.re.mag.v,.val (.bool x.o2.im.neg),.val x.o2.im.mag.v,.val x.o2.under.v]⟩/\O2 ⟨34,.fixed [.val (.bool w.o4.re.neg),.val w.o4.re.mag.v,.val (.bool w.o4.im.neg),.val w.o4.im.mag.v,.val w.o4.under.v]⟩ ⟨34,.fixed [.val (.bool x.o4.re.neg),.val x.o4.re.mag.v,.val (.bool x.o4.im.neg),.val x.o4.im.mag.v,.val x.o4.under.v]⟩/\True)
def transform_Energy_num_Num__sk(p0:Sl)(V:View)(R:Value->View->Prop)(I0:Unit->L_transform_Energy_num_Num__0->View->Prop)(E0:Unit->L_transform_Energy_num_Num__0->View->Prop)(B0:Unit->L_transform_Energy_num_Num__0->View->L_transform_Energy_num_Num__0->View->Prop):Prop :=
 ((decide (((p0.len:Int):Int)>64))=true ->
 R (.tuple #[(NumV.mk (WhV.mk false (Sl.mk none 0 0)) (WhV.mk false (Sl.mk none 0 0)) (Sl.mk none 0 0)).val,.int .i64 4]) V) /\
 ((decide (((p0.len:Int):Int)>64))=false ->
 ((((p0.len:Int):Int)==0)=true ->
 CallV Try.prog 21 #[.int .i64 0,.int .i64 1] V λv V1=>∃r1:NumV,v=r1.val /\
 R (.tuple #[r1.val,.int .i64 0]) V1) /\
 ((((p0.len:Int):Int)==0)=false ->
 E0 () (L_transform_Energy_num_Num__0.mk 0 (NumV.mk (WhV.mk false (Sl.mk none 0 0)) (WhV.mk false (Sl.mk none 0 0)) (Sl.mk none 0 0)) (NumV.mk (WhV.mk false (Sl.mk none 0 0)) (WhV.mk false (Sl.mk none 0 0)) (Sl.mk none 0 0))) V /\
 (∀(x2:L_transform_Energy_num_Num__0) (V2:View),View.le V V2->I0 () x2 V2 ->
 ((decide ((x2.t18:Int)<(p0.len:Int)))=true ->
 ((0:Int)<=x2.t18/\(x2.t18:Int)<(p0.len:Nat)/\Option.isSome p0.a=true) /\
 ∃x3:NumV,View.has V2 (Option.map (λq=>Addr.add q (Int.toNat x2.t18*5)) p0.a) (x3.val).cells.toList/\Option.isSome (Option.map (λq=>Addr.add q (Int.toNat x2.t18*5)) p0.a)=true /\
 CallV Try.prog 82 #[x3.val] V2 λv V3=>∃r2:NumV,v=r2.val /\
 CallV Try.prog 10 #[x3.val,r2.val] V3 λv V4=>∃r3:NumV,v=r3.val /\
 (((x2.t18:Int)==0)=true ->
 B0 () (L_transform_Energy_num_Num__0.mk (i64.wrap (x2.t18+1)) x2.o2 r3) V4 x2 V2) /\
 (((x2.t18:Int)==0)=false ->
 CallV Try.prog 20 #[x2.o4.val,r3.val] V4 λv V5=>∃r4:NumV,v=r4.val /\
 B0 () (L_transform_Energy_num_Num__0.mk (i64.wrap (x2.t18+1)) x2.o2 r4) V5 x2 V2)) /\
 ((decide ((x2.t18:Int)<(p0.len:Int)))=false ->
 R (.tuple #[x2.o4.val,.int .i64 0]) V2))))
theorem transform_Energy_num_Num__v0(p0:Sl)(V:View)(R:Value->View->Prop)(I0:Unit->L_transform_Energy_num_Num__0->View->Prop)(J0:Unit->L_transform_Energy_num_Num__0->View->Nat){X:Prop}(e:transform_Energy_num_Num__sk p0 V R I0 I0 (λc w V x U=>I0 c w V/\J0 c w V<J0 c x U)=X)(h:X) :
 CallV Try.prog 8 #[p0.v] V R :=
 calls_of_vc (Shp:=Shp) hmixed Try.func8 (c:=Try.f8.body.getD .skip) (args:=[p0.v]) (by kernel_rfl)
 (.seq (.reg [A 2 3,A 3 2]) (.seq (.reg [A 4 3]) (.seq (.seq (.reg [A 8 2,A 9 0,A 10 0]) (.cond (.seq (.reg [A 4 4,A 2 6,A 3 2]) .leaf) .leaf)) (.seq (.seq (.reg [A 12 2,A 13 0,A 14 0]) (.cond (.seq (.reg [A 15 10,A 2 6,A 3 2]) .leaf) .leaf)) (.seq (.seq (.reg [A 16 2,A 17 0,A 18 2]) (.block (.loop Unit L_transform_Energy_num_Num__0 (λ_=>()) (λc x=>{ tm:=spT 38 0 [(2,.own 2 0),(4,.own 4 0),(16,.val p0.v),(17,.val (.int .i64 (p0.len:Int))),(18,.val (.int .i64 x.t18))],own:=spO 38 0 [(2,⟨34,.fixed [.val (.bool x.o2.re.neg),.val x.o2.re.mag.v,.val (.bool x.o2.im.neg),.val x.o2.im.mag.v,.val x.o2.under.v]⟩),(4,⟨34,.fixed [.val (.bool x.o4.re.neg),.val x.o4.re.mag.v,.val (.bool x.o4.im.neg),.val x.o4.im.mag.v,.val x.o4.under.v]⟩)] }) I0 J0 (.seq (.reg [A 19 0]) (.seq (.cond .leaf .leaf) (.seq (.block (.seq (.reg [A 20 2,A 21 7,A 22 5,A 6 3,A 5 2,A 6 6]) (.seq (.draw [(0,A 6 4),(1,A 24 0),(2,A 6 4),(3,A 26 0),(6,A 7 3),(4,A 27 10),(5,A 28 10),(7,A 7 6)] [0,1,0,4,12,31,0,127]) (.seq (.seq (.reg [A 29 2,A 30 0]) (.cond (.seq (.reg [A 7 4,A 4 6]) .leaf) .leaf)) (.reg [A 4 4,A 33 0,A 7 4,A 35 10,A 4 6]))))) (.reg [A 36 0,A 18 2]))))))) (.seq (.reg [A 4 4,A 2 6,A 3 2]) .leaf))))))
 (Eq.mpr (by kernel_rfl) (show transform_Energy_num_Num__sk p0 V R I0 (λc w V=>∃x,transform_Energy_num_Num__f0 p0 c w x/\I0 c x V) (λc w V y U=>∃x,transform_Energy_num_Num__f0 p0 c w x/\I0 c x V/\J0 c x V<J0 c y U)from by
 have h:=Eq.mpr e h; unfold transform_Energy_num_Num__sk at h ⊢; have Ee0:=λc w V (h:I0 c w V)=>(⟨w,⟨⟨rfl,rfl,rfl,rfl,rfl,trivial⟩,⟨rfl,rfl,trivial⟩⟩,h⟩:∃x,transform_Energy_num_Num__f0 p0 c w x/\I0 c x V); have Bb0:=λc w V y U (h:I0 c w V/\J0 c w V<J0 c y U)=>(⟨w,⟨⟨rfl,rfl,rfl,rfl,rfl,trivial⟩,⟨rfl,rfl,trivial⟩⟩,h⟩:∃x,transform_Energy_num_Num__f0 p0 c w x/\I0 c x V/\J0 c x V<J0 c y U); exact⟨λh17=>(h.1 h17),λh17=>⟨λh16=>(CallV.mono ((h.2 h17).1 h16) (λ_ _ _ ⟨r1,h2,h1⟩=>⟨r1,h2,h1⟩)),λh16=>⟨(Ee0 _ _ _ ((h.2 h17).2 h16).1),λx2 V2 h14 h15=>⟨λh13=>⟨((((h.2 h17).2 h16).2 x2 V2 h14 h15).1 h13).1,(match ((((h.2 h17).2 h16).2 x2 V2 h14 h15).1 h13).2 with|⟨x3,h11,h12,h10⟩=>⟨x3,h11,h12,(CallV.mono h10 (λ_ _ _ ⟨r2,h9,h8⟩=>⟨r2,h9,(CallV.mono h8 (λ_ _ _ ⟨r3,h7,h6⟩=>⟨r3,h7,⟨λh5=>(Bb0 _ _ _ _ _ (h6.1 h5)),λh5=>(CallV.mono (h6.2 h5) (λ_ _ _ ⟨r4,h4,h3⟩=>⟨r4,h4,(Bb0 _ _ _ _ _ h3)⟩))⟩⟩))⟩))⟩)⟩,λh13=>((((h.2 h17).2 h16).2 x2 V2 h14 h15).2 h13)⟩⟩⟩⟩))
theorem transform_Energy_num_Num__vc:type_of% (λp0 V R I0 J0=>transform_Energy_num_Num__v0 p0 V R I0 J0 (transform_Energy_num_Num__sk.eq_1 ..)):=λp0 V R I0 J0=>transform_Energy_num_Num__v0 p0 V R I0 J0 (transform_Energy_num_Num__sk.eq_1 ..)
