/- Part of the proof; it has the parts FFor. -/
import Derived.Test.YtblaagclfalaaaaFText
set_option maxRecDepth 100000
set_option maxHeartbeats 4000000
namespace Go.Proofs.Ytblaagclfalaaaa
open Go Go.Vc Go.Proofs
open Go.IntKind (i8 i16 i32 i64 u8 u16 u32 u64)
theorem waveportlaw07_small_vc(p0:RatV)(V:View)(R:Value->View->Prop)
 (h :
 ((decide (((Int.tmod p0.den 6):Int)<0))=true ->
 R ((RatV.mk (Int.tmod p0.re 21) (Int.tmod p0.im 21) (i64.wrap ((i64.wrap (0-(Int.tmod p0.den 6)))+1))).val) V) /\
 ((decide (((Int.tmod p0.den 6):Int)<0))=false ->
 R ((RatV.mk (Int.tmod p0.re 21) (Int.tmod p0.im 21) (i64.wrap ((Int.tmod p0.den 6)+1))).val) V)) :
 CallV Try.prog 39 #[p0.val] V R :=
 calls_of_vc (Shp:=Shp) hmixed Try.func39 (c:=Try.f39.body.getD .skip) (args:=[p0.val]) (by kernel_rfl)
 (.seq (.reg [A 1 3,A 2 3]) (.seq (.reg [A 4 7,A 1 4,A 6 0,A 3 2]) (.seq (.seq (.reg [A 7 2,A 8 0]) (.cond (.reg [A 9 2,A 10 0,A 3 2]) .leaf)) (.seq (.reg [A 11 7,A 1 4,A 13 0,A 14 7,A 1 4,A 16 0,A 17 2,A 18 0,A 19 0,A 2 6]) .leaf))))
 (Eq.mpr (by kernel_rfl) h)
structure L_waveportlaw07_repeated_0 where(t11:Int)(o8:List Value)
def waveportlaw07_repeated_f0(p0:Sl)(p1:Int)(_c:Unit)(w x:L_waveportlaw07_repeated_0):Prop:=(Q1 (.val p0.v)/\Q1 (.osl 8 0 (Int.toNat p1) (Int.toNat p1))/\Q1 (.val (.int .i64 ((Int.toNat p1:Nat):Int)))/\E2 (.val (.int .i64 w.t11)) (.val (.int .i64 x.t11))/\True)/\(O2 ⟨60,.dyn w.o8⟩ ⟨60,.dyn x.o8⟩/\True)
def waveportlaw07_repeated_sk(p0:Sl)(p1:Int)(V:View)(R:Value->View->Prop)(I0:Unit->L_waveportlaw07_repeated_0->View->Prop)(E0:Unit->L_waveportlaw07_repeated_0->View->Prop)(B0:Unit->L_waveportlaw07_repeated_0->View->L_waveportlaw07_repeated_0->View->Prop):Prop :=
 ((0:Int)<=p1/\(p1:Int)<=p1/\(24:Int)*p1<=281474976710656/\(p1:Int)<=9223372036854775807) /\
 E0 () (L_waveportlaw07_repeated_0.mk 0 ((List.replicate (Int.toNat p1) [Value.int .i64 0,Value.int .i64 0,Value.int .i64 0]).flatten)) V /\
 (∀(x2:L_waveportlaw07_repeated_0) (V1:View),View.le V V1->I0 () x2 V1 ->
 ((decide ((x2.t11:Int)<((Int.toNat p1:Nat):Int)))=true ->
 ((decide (((p0.len:Int):Int)>0))=true ->
 ((p0.len:Int):Int)≠0 /\
 ((0:Int)<=(Int.tmod x2.t11 (p0.len:Int))/\((Int.tmod x2.t11 (p0.len:Int)):Int)<(p0.len:Nat)/\Option.isSome p0.a=true) /\
 ∃x3:RatV,View.has V1 (Option.map (λq=>Addr.add q (Int.toNat (Int.tmod x2.t11 (p0.len:Int))*3)) p0.a) (x3.val).cells.toList/\Option.isSome (Option.map (λq=>Addr.add q (Int.toNat (Int.tmod x2.t11 (p0.len:Int))*3)) p0.a)=true /\
 CallV Try.prog 39 #[x3.val] V1 λv V2=>∃r1:RatV,v=r1.val /\
 ((0:Int)<=x2.t11/\(x2.t11:Int)<(Int.toNat p1:Nat)) /\
 0+Int.toNat x2.t11*3+3<=List.length x2.o8 /\
 B0 () (L_waveportlaw07_repeated_0.mk (i64.wrap (x2.t11+1)) (setL x2.o8 (0+Int.toNat x2.t11*3) [.int .i64 r1.re,.int .i64 r1.im,.int .i64 r1.den])) V2 x2 V1) /\
 ((decide (((p0.len:Int):Int)>0))=false ->
 B0 () (L_waveportlaw07_repeated_0.mk (i64.wrap (x2.t11+1)) x2.o8) V1 x2 V1)) /\
 ((decide ((x2.t11:Int)<((Int.toNat p1:Nat):Int)))=false ->
 ∀(b1:Nat) (V3:View),View.le V1 V3->V3 b1=some (List.toArray x2.o8) ->
 R ((Sl.mk (some (Addr.mk b1 0 none)) (Int.toNat p1) (Int.toNat p1)).v) V3))
theorem waveportlaw07_repeated_v0(p0:Sl)(p1:Int)(V:View)(R:Value->View->Prop)(I0:Unit->L_waveportlaw07_repeated_0->View->Prop)(J0:Unit->L_waveportlaw07_repeated_0->View->Nat){X:Prop}(e:waveportlaw07_repeated_sk p0 p1 V R I0 I0 (λc w V x U=>I0 c w V/\J0 c w V<J0 c x U)=X)(h:X) :
 CallV Try.prog 18 #[p0.v,.int .i64 p1] V R :=
 calls_of_vc (Shp:=Shp) hmixed Try.func18 (c:=Try.f18.body.getD .skip) (args:=[p0.v,.int .i64 p1]) (by kernel_rfl)
 (.seq (.reg [A 4 2]) (.seq (.reg [A 7 2,A 8 3,A 5 2]) (.seq (.seq (.reg [A 9 2,A 10 7,A 11 2]) (.block (.loop Unit L_waveportlaw07_repeated_0 (λ_=>()) (λc x=>{ tm:=spT 30 0 [(0,.val p0.v),(5,.osl 8 0 (Int.toNat p1) (Int.toNat p1)),(10,.val (.int .i64 ((Int.toNat p1:Nat):Int))),(11,.val (.int .i64 x.t11))],own:=spO 30 0 [(8,⟨60,.dyn x.o8⟩)] }) I0 J0 (.seq (.reg [A 12 0]) (.seq (.cond .leaf .leaf) (.seq (.block (.seq (.reg [A 13 2,A 6 2]) (.seq (.reg [A 14 2,A 15 0,A 16 0]) (.cond (.reg [A 17 2,A 18 2,A 19 2,A 20 2,A 21 2,A 22 0,A 23 12,A 24 7,A 25 5,A 26 10,A 27 7,A 8 6]) .leaf)))) (.reg [A 28 0,A 11 2]))))))) (.seq (.reg [A 29 2,A 4 2]) (.pub 8 .leaf)))))
 (Eq.mpr (by kernel_rfl) (show waveportlaw07_repeated_sk p0 p1 V R I0 (λc w V=>∃x,waveportlaw07_repeated_f0 p0 p1 c w x/\I0 c x V) (λc w V y U=>∃x,waveportlaw07_repeated_f0 p0 p1 c w x/\I0 c x V/\J0 c x V<J0 c y U)from by
 have h:=Eq.mpr e h; unfold waveportlaw07_repeated_sk at h ⊢; have Ee0:=λc w V (h:I0 c w V)=>(⟨w,⟨⟨rfl,rfl,rfl,rfl,trivial⟩,⟨rfl,trivial⟩⟩,h⟩:∃x,waveportlaw07_repeated_f0 p0 p1 c w x/\I0 c x V); have Bb0:=λc w V y U (h:I0 c w V/\J0 c w V<J0 c y U)=>(⟨w,⟨⟨rfl,rfl,rfl,rfl,trivial⟩,⟨rfl,trivial⟩⟩,h⟩:∃x,waveportlaw07_repeated_f0 p0 p1 c w x/\I0 c x V/\J0 c x V<J0 c y U); exact⟨h.1,⟨(Ee0 _ _ _ h.2.1),λx2 V1 h10 h11=>⟨λh9=>⟨λh6=>⟨(((h.2.2 x2 V1 h10 h11).1 h9).1 h6).1,⟨(((h.2.2 x2 V1 h10 h11).1 h9).1 h6).2.1,(match (((h.2.2 x2 V1 h10 h11).1 h9).1 h6).2.2 with|⟨x3,h4,h5,h3⟩=>⟨x3,h4,h5,(CallV.mono h3 (λ_ _ _ ⟨r1,h2,h1⟩=>⟨r1,h2,⟨h1.1,⟨h1.2.1,(Bb0 _ _ _ _ _ h1.2.2)⟩⟩⟩))⟩)⟩⟩,λh6=>(Bb0 _ _ _ _ _ (((h.2.2 x2 V1 h10 h11).1 h9).2 h6))⟩,λh9=>(λb1 V3 h7 h8=>(((h.2.2 x2 V1 h10 h11).2 h9) b1 V3 h7 h8))⟩⟩⟩))
theorem waveportlaw07_repeated_vc:type_of% (λp0 p1 V R I0 J0=>waveportlaw07_repeated_v0 p0 p1 V R I0 J0 (waveportlaw07_repeated_sk.eq_1 ..)):=λp0 p1 V R I0 J0=>waveportlaw07_repeated_v0 p0 p1 V R I0 J0 (waveportlaw07_repeated_sk.eq_1 ..)
theorem waveportlaw07_exact_vc(p0:Sl)(p1:Int)(V:View)(R:Value->View->Prop)
 (h :
 (0:Int)<=(Int.tmod p1 3) /\
 CallV Try.prog 16 #[.int .i64 (i64.wrap (1*2^(min (Int.toNat (Int.tmod p1 3)) (IntKind.bits .i64))))] V λv V1=>∃(r1:Sl) (r2:Int),v = .tuple #[r1.v,.int .i64 r2] /\
 CallV Try.prog 18 #[p0.v,.int .i64 (i64.wrap (1*2^(min (Int.toNat (Int.tmod p1 3)) (IntKind.bits .i64))))] V1 λv V2=>∃r3:Sl,v=r3.v /\
 CallV Try.prog 17 #[r3.v] V2 λv V3=>∃r4:Sl,v=r4.v /\
 R (.tuple #[r4.v,r1.v]) V3) :
 CallV Try.prog 4 #[p0.v,.int .u8 p1] V R :=
 calls_of_vc (Shp:=Shp) hmixed Try.func4 (c:=Try.f4.body.getD .skip) (args:=[p0.v,.int .u8 p1]) (by kernel_rfl)
 (.seq (.reg [A 4 2,A 5 2]) (.seq (.reg [A 9 2,A 10 0,A 11 12,A 6 2]) (.seq (.reg [A 13 2,A 14 10,A 12 2,A 15 0,A 16 0,A 7 2,A 8 2]) (.seq (.reg [A 17 2,A 18 2,A 19 10,A 20 10,A 21 2,A 4 2,A 5 2]) .leaf))))
 (Eq.mpr (by kernel_rfl) h)
theorem transform_of_num_Num__vc(p0:Int)(p1:Int)(V:View)(R:Value->View->Prop)
 (h :
 CallV Try.prog 36 #[.int .i64 p0,.int .i64 0,.int .i64 p1] V λv V1=>∃(r1:NumV) (r2:Int),v = .tuple #[r1.val,.int .i64 r2] /\
 CallV Try.prog 83 #[(NumV.mk (WhV.mk false (Sl.mk none 0 0)) (WhV.mk false (Sl.mk none 0 0)) (Sl.mk none 0 0)).val,r1.val] V1 λv V2=>∃r3:NumV,v=r3.val /\
 R (r3.val) V2) :
 CallV Try.prog 21 #[.int .i64 p0,.int .i64 p1] V R :=
 calls_of_vc (Shp:=Shp) hmixed Try.func21 (c:=Try.f21.body.getD .skip) (args:=[.int .i64 p0,.int .i64 p1]) (by kernel_rfl)
 (.seq (.reg [A 4 3]) (.seq (.reg [A 5 3]) (.seq (.reg [A 9 2,A 10 2,A 11 10,A 8 2,A 12 0,A 13 0,A 6 3,A 6 6,A 7 2]) (.seq (.reg [A 5 4,A 15 0,A 6 4,A 17 10,A 4 6]) .leaf))))
 (Eq.mpr (by kernel_rfl) h)
structure L_transform_Forward_num_Num__0 where(t21:Int)(o18:List Value)
structure L_transform_Forward_num_Num__1 where(t10:Int)(o9:NumV)(o18:List Value)
structure C_transform_Forward_num_Num__1 where(t8 t21:Int)
def transform_Forward_num_Num__f0(p0:Sl)(p1:Sl)(_c:Unit)(w x:L_transform_Forward_num_Num__0):Prop:=(Q1 (.val p0.v)/\Q1 (.val p1.v)/\Q1 (.val (.int .i64 (p0.len:Int)))/\Q1 (.osl 18 0 (Int.toNat (p0.len:Int)) (Int.toNat (p0.len:Int)))/\Q1 (.val (.int .i64 ((Int.toNat (p0.len:Int):Nat):Int)))/\E2 (.val (.int .i64 w.t21)) (.val (.int .i64 x.t21))/\True)/\(O2 ⟨34,.dyn w.o18⟩ ⟨34,.dyn x.o18⟩/\True)
def transform_Forward_num_Num__f1(p0:Sl)(p1:Sl)(c:C_transform_Forward_num_Num__1)(w x:L_transform_Forward_num_Num__1):Prop:=(Q1 (.val p0.v)/\Q1 (.val p1.v)/\Q1 (.val (.int .i64 (p0.len:Int)))/\Q1 (.osl 18 0 (Int.toNat (p0.len:Int)) (Int.toNat (p0.len:Int)))/\Q1 (.val (.int .i64 c.t8))/\Q1 (.own 9 0)/\E2 (.val (.int .i64 w.t10)) (.val (.int .i64 x.t10))/\Q1 (.val (.int .i64 ((Int.toNat (p0.len:Int):Nat):Int)))/\Q1 (.val (.int .i64 c.t21))/\True)/\(O2 ⟨34,.fixed [.val (.bool w.o9.re.neg),.val w.o9.re.mag.v,.val (.bool w.o9.im.neg),.val w.o9.im.mag.v,.val w.o9.under.v]⟩ ⟨34,.fixed [.val (.bool x.o9.re.neg),.val x.o9.re.mag.v,.val (.bool x.o9.im.neg),.val x.o9.im.mag.v,.val x.o9.under.v]⟩/\O2 ⟨34,.dyn w.o18⟩ ⟨34,.dyn x.o18⟩/\True)
def transform_Forward_num_Num__sk(p0:Sl)(p1:Sl)(V:View)(R:Nat->Nat->List Value->List Value->View->Prop)(I0:Unit->L_transform_Forward_num_Num__0->View->Prop)(I1:C_transform_Forward_num_Num__1->L_transform_Forward_num_Num__1->View->Prop)(E0:Unit->L_transform_Forward_num_Num__0->View->Prop)(B0:Unit->L_transform_Forward_num_Num__0->View->L_transform_Forward_num_Num__0->View->Prop)(E1:C_transform_Forward_num_Num__1->L_transform_Forward_num_Num__1->View->Prop)(B1:C_transform_Forward_num_Num__1->L_transform_Forward_num_Num__1->View->L_transform_Forward_num_Num__1->View->Prop):Prop :=
 CallV Try.prog 19 #[p0.v,p1.v] V λv V1=>∃r1:Bool,v = .bool r1 /\
 ((!r1)=true ->
 R 0 0 [] [Value.int .i64 4] V1) /\
 ((!r1)=false ->
 ((0:Int)<=(p0.len:Int)/\((p0.len:Int):Int)<=(p0.len:Int)/\(88:Int)*(p0.len:Int)<=281474976710656/\((p0.len:Int):Int)<=9223372036854775807) /\
 E0 () (L_transform_Forward_num_Num__0.mk 0 ((List.replicate (Int.toNat (p0.len:Int)) [Value.bool false,Value.slice none 0 0,Value.bool false,Value.slice none 0 0,Value.slice none 0 0]).flatten)) V1 /\
 (∀(x2:L_transform_Forward_num_Num__0) (V2:View),View.le V1 V2->I0 () x2 V2 ->
 ((decide ((x2.t21:Int)<((Int.toNat (p0.len:Int):Nat):Int)))=true ->
 ((0:Int)<=0/\(0:Int)<(p0.len:Nat)/\Option.isSome p0.a=true) /\
 ∃x3:NumV,View.has V2 (Option.map (λq=>Addr.add q (Int.toNat 0*5)) p0.a) (x3.val).cells.toList/\Option.isSome (Option.map (λq=>Addr.add q (Int.toNat 0*5)) p0.a)=true /\
 ((0:Int)<=0/\(0:Int)<(p1.len:Nat)/\Option.isSome p1.a=true) /\
 ∃x4:NumV,View.has V2 (Option.map (λq=>Addr.add q (Int.toNat 0*5)) p1.a) (x4.val).cells.toList/\Option.isSome (Option.map (λq=>Addr.add q (Int.toNat 0*5)) p1.a)=true /\
 CallV Try.prog 10 #[x3.val,x4.val] V2 λv V3=>∃r2:NumV,v=r2.val /\
 E1 (C_transform_Forward_num_Num__1.mk x2.t21 x2.t21) (L_transform_Forward_num_Num__1.mk 1 r2 x2.o18) V3 /\
 (∀(x6:L_transform_Forward_num_Num__1) (V4:View),View.le V3 V4->I1 (C_transform_Forward_num_Num__1.mk x2.t21 x2.t21) x6 V4 ->
 ((decide ((x6.t10:Int)<(p0.len:Int)))=true ->
 ((0:Int)<=x6.t10/\(x6.t10:Int)<(p0.len:Nat)/\Option.isSome p0.a=true) /\
 ∃x7:NumV,View.has V4 (Option.map (λq=>Addr.add q (Int.toNat x6.t10*5)) p0.a) (x7.val).cells.toList/\Option.isSome (Option.map (λq=>Addr.add q (Int.toNat x6.t10*5)) p0.a)=true /\
 ((p0.len:Int):Int)≠0 /\
 ((0:Int)<=(Int.tmod (i64.wrap (x6.t10*x2.t21)) (p0.len:Int))/\((Int.tmod (i64.wrap (x6.t10*x2.t21)) (p0.len:Int)):Int)<(p1.len:Nat)/\Option.isSome p1.a=true) /\
 ∃x8:NumV,View.has V4 (Option.map (λq=>Addr.add q (Int.toNat (Int.tmod (i64.wrap (x6.t10*x2.t21)) (p0.len:Int))*5)) p1.a) (x8.val).cells.toList/\Option.isSome (Option.map (λq=>Addr.add q (Int.toNat (Int.tmod (i64.wrap (x6.t10*x2.t21)) (p0.len:Int))*5)) p1.a)=true /\
 CallV Try.prog 10 #[x7.val,x8.val] V4 λv V5=>∃r3:NumV,v=r3.val /\
 CallV Try.prog 20 #[x6.o9.val,r3.val] V5 λv V6=>∃r4:NumV,v=r4.val /\
 B1 (C_transform_Forward_num_Num__1.mk x2.t21 x2.t21) (L_transform_Forward_num_Num__1.mk (i64.wrap (x6.t10+1)) r4 x6.o18) V6 x6 V4) /\
 ((decide ((x6.t10:Int)<(p0.len:Int)))=false ->
 ((0:Int)<=x2.t21/\(x2.t21:Int)<(Int.toNat (p0.len:Int):Nat)) /\
 0+Int.toNat x2.t21*5+5<=List.length x6.o18 /\
 B0 () (L_transform_Forward_num_Num__0.mk (i64.wrap (x2.t21+1)) (setL x6.o18 (0+Int.toNat x2.t21*5) [.bool x6.o9.re.neg,x6.o9.re.mag.v,.bool x6.o9.im.neg,x6.o9.im.mag.v,x6.o9.under.v])) V4 x2 V2))) /\
 ((decide ((x2.t21:Int)<((Int.toNat (p0.len:Int):Nat):Int)))=false ->
 ((Int.toNat (p0.len:Int))≠0/\x2.o18≠[])/\R (Int.toNat (p0.len:Int)) (Int.toNat (p0.len:Int)) x2.o18 [Value.int .i64 0] V2)))
theorem transform_Forward_num_Num__v0(p0:Sl)(p1:Sl)(V:View)(R:Nat->Nat->List Value->List Value->View->Prop)(I0:Unit->L_transform_Forward_num_Num__0->View->Prop)(J0:Unit->L_transform_Forward_num_Num__0->View->Nat)(I1:C_transform_Forward_num_Num__1->L_transform_Forward_num_Num__1->View->Prop)(J1:C_transform_Forward_num_Num__1->L_transform_Forward_num_Num__1->View->Nat){X:Prop}(e:transform_Forward_num_Num__sk p0 p1 V R I0 I1 I0 (λc w V x U=>I0 c w V/\J0 c w V<J0 c x U) I1 (λc w V x U=>I1 c w V/\J1 c w V<J1 c x U)=X)(h:X) :
 CallO Try.prog 5 #[p0.v,p1.v] 34 V R :=
 calls_of_vcO (Shp:=Shp) hmixed Try.func5 (c:=Try.f5.body.getD .skip) (args:=[p0.v,p1.v]) (by kernel_rfl)
 (.seq (.reg [A 4 2,A 5 2]) (.seq (.seq (.reg [A 11 2,A 12 2,A 13 10,A 14 0]) (.cond (.seq (.reg [A 4 2,A 5 2]) .leaf) .leaf)) (.seq (.reg [A 15 2,A 16 0,A 6 2]) (.seq (.reg [A 17 2,A 18 3,A 7 2]) (.seq (.seq (.reg [A 19 2,A 20 7,A 21 2]) (.block (.loop Unit L_transform_Forward_num_Num__0 (λ_=>()) (λc x=>{ tm:=spT 60 0 [(0,.val p0.v),(1,.val p1.v),(6,.val (.int .i64 (p0.len:Int))),(7,.osl 18 0 (Int.toNat (p0.len:Int)) (Int.toNat (p0.len:Int))),(20,.val (.int .i64 ((Int.toNat (p0.len:Int):Nat):Int))),(21,.val (.int .i64 x.t21))],own:=spO 60 0 [(18,⟨34,.dyn x.o18⟩)] }) I0 J0 (.seq (.reg [A 22 0]) (.seq (.cond .leaf .leaf) (.seq (.block (.seq (.reg [A 23 2,A 8 2]) (.seq (.draw [(0,A 24 2),(1,A 25 7),(2,A 26 5),(3,A 27 0),(4,A 28 2),(5,A 29 7),(6,A 30 5),(8,A 9 3),(7,A 31 10),(9,A 9 6)] [0,1,3,7,0,16,48,127,0,511]) (.seq (.seq (.reg [A 10 2]) (.block (.loop C_transform_Forward_num_Num__1 L_transform_Forward_num_Num__1 (λσ=>C_transform_Forward_num_Num__1.mk (gInt (gTm σ 8)) (gInt (gTm σ 21))) (λc x=>{ tm:=spT 60 0 [(0,.val p0.v),(1,.val p1.v),(6,.val (.int .i64 (p0.len:Int))),(7,.osl 18 0 (Int.toNat (p0.len:Int)) (Int.toNat (p0.len:Int))),(8,.val (.int .i64 c.t8)),(9,.own 9 0),(10,.val (.int .i64 x.t10)),(20,.val (.int .i64 ((Int.toNat (p0.len:Int):Nat):Int))),(21,.val (.int .i64 c.t21))],own:=spO 60 0 [(9,⟨34,.fixed [.val (.bool x.o9.re.neg),.val x.o9.re.mag.v,.val (.bool x.o9.im.neg),.val x.o9.im.mag.v,.val x.o9.under.v]⟩),(18,⟨34,.dyn x.o18⟩)] }) I1 J1 (.seq (.seq (.reg [A 32 2,A 33 2,A 34 0]) (.cond .leaf .leaf)) (.seq (.block (.draw [(0,A 9 4),(1,A 38 0),(2,A 39 2),(3,A 40 2),(4,A 41 7),(5,A 42 5),(6,A 43 0),(7,A 44 2),(8,A 45 2),(9,A 46 2),(10,A 47 0),(11,A 48 2),(12,A 49 12),(13,A 50 7),(14,A 51 5),(15,A 52 10),(16,A 53 10),(17,A 9 6)] [0,1,0,0,12,28,60,0,0,0,768,0,3840,8064,16256,32764,65535,131071])) (.reg [A 35 2,A 36 0,A 10 2])))))) (.reg [A 54 2,A 55 2,A 9 4,A 57 7,A 18 6]))))) (.reg [A 58 0,A 21 2]))))))) (.seq (.reg [A 59 2,A 4 2,A 5 2]) .leaf))))))
 (Eq.mpr (by kernel_rfl) (show transform_Forward_num_Num__sk p0 p1 V R I0 I1 (λc w V=>∃x,transform_Forward_num_Num__f0 p0 p1 c w x/\I0 c x V) (λc w V y U=>∃x,transform_Forward_num_Num__f0 p0 p1 c w x/\I0 c x V/\J0 c x V<J0 c y U) (λc w V=>∃x,transform_Forward_num_Num__f1 p0 p1 c w x/\I1 c x V) (λc w V y U=>∃x,transform_Forward_num_Num__f1 p0 p1 c w x/\I1 c x V/\J1 c x V<J1 c y U)from by
 have h:=Eq.mpr e h; unfold transform_Forward_num_Num__sk at h ⊢; have Ee0:=λc w V (h:I0 c w V)=>(⟨w,⟨⟨rfl,rfl,rfl,rfl,rfl,rfl,trivial⟩,⟨rfl,trivial⟩⟩,h⟩:∃x,transform_Forward_num_Num__f0 p0 p1 c w x/\I0 c x V); have Bb0:=λc w V y U (h:I0 c w V/\J0 c w V<J0 c y U)=>(⟨w,⟨⟨rfl,rfl,rfl,rfl,rfl,rfl,trivial⟩,⟨rfl,trivial⟩⟩,h⟩:∃x,transform_Forward_num_Num__f0 p0 p1 c w x/\I0 c x V/\J0 c x V<J0 c y U); have Ee1:=λc w V (h:I1 c w V)=>(⟨w,⟨⟨rfl,rfl,rfl,rfl,rfl,rfl,rfl,rfl,rfl,trivial⟩,⟨rfl,rfl,trivial⟩⟩,h⟩:∃x,transform_Forward_num_Num__f1 p0 p1 c w x/\I1 c x V); have Bb1:=λc w V y U (h:I1 c w V/\J1 c w V<J1 c y U)=>(⟨w,⟨⟨rfl,rfl,rfl,rfl,rfl,rfl,rfl,rfl,rfl,trivial⟩,⟨rfl,rfl,trivial⟩⟩,h⟩:∃x,transform_Forward_num_Num__f1 p0 p1 c w x/\I1 c x V/\J1 c x V<J1 c y U); exact(CallV.mono h (λ_ _ _ ⟨r1,h27,h26⟩=>⟨r1,h27,⟨λh25=>(h26.1 h25),λh25=>⟨(h26.2 h25).1,⟨(Ee0 _ _ _ (h26.2 h25).2.1),λx2 V2 h23 h24=>⟨λh22=>⟨(((h26.2 h25).2.2 x2 V2 h23 h24).1 h22).1,(match (((h26.2 h25).2.2 x2 V2 h23 h24).1 h22).2 with|⟨x3,h20,h21,h19⟩=>⟨x3,h20,h21,⟨h19.1,(match h19.2 with|⟨x4,h17,h18,h16⟩=>⟨x4,h17,h18,(CallV.mono h16 (λ_ _ _ ⟨r2,h15,h14⟩=>⟨r2,h15,⟨(Ee1 _ _ _ h14.1),λx6 V4 h12 h13=>⟨λh11=>⟨((h14.2 x6 V4 h12 h13).1 h11).1,(match ((h14.2 x6 V4 h12 h13).1 h11).2 with|⟨x7,h9,h10,h8⟩=>⟨x7,h9,h10,⟨h8.1,⟨h8.2.1,(match h8.2.2 with|⟨x8,h6,h7,h5⟩=>⟨x8,h6,h7,(CallV.mono h5 (λ_ _ _ ⟨r3,h4,h3⟩=>⟨r3,h4,(CallV.mono h3 (λ_ _ _ ⟨r4,h2,h1⟩=>⟨r4,h2,(Bb1 _ _ _ _ _ h1)⟩))⟩))⟩)⟩⟩⟩)⟩,λh11=>⟨((h14.2 x6 V4 h12 h13).2 h11).1,⟨((h14.2 x6 V4 h12 h13).2 h11).2.1,(Bb0 _ _ _ _ _ ((h14.2 x6 V4 h12 h13).2 h11).2.2)⟩⟩⟩⟩⟩))⟩)⟩⟩)⟩,λh22=>(((h26.2 h25).2.2 x2 V2 h23 h24).2 h22)⟩⟩⟩⟩⟩))))
theorem transform_Forward_num_Num__vc:type_of% (λp0 p1 V R I0 J0 I1 J1=>transform_Forward_num_Num__v0 p0 p1 V R I0 J0 I1 J1 (transform_Forward_num_Num__sk.eq_1 ..)):=λp0 p1 V R I0 J0 I1 J1=>transform_Forward_num_Num__v0 p0 p1 V R I0 J0 I1 J1 (transform_Forward_num_Num__sk.eq_1 ..)
structure L_waveportlaw07_are_0 where(u:Unit)
structure L_waveportlaw07_are_1 where(t25:Int)
def waveportlaw07_are_f0(p0:Sl)(p2:Sl)(_c:Unit)(_w _x:L_waveportlaw07_are_0):Prop:=(Q1 (.val p0.v)/\Q1 (.val p2.v)/\True)/\(True)
def waveportlaw07_are_f1(p0:Sl)(p2:Sl)(_c:Unit)(w x:L_waveportlaw07_are_1):Prop:=(Q1 (.val p0.v)/\Q1 (.val p2.v)/\Q1 (.val (.int .i64 (p0.len:Int)))/\E2 (.val (.int .i64 w.t25)) (.val (.int .i64 x.t25))/\True)/\(True)
def waveportlaw07_are_sk(p0:Sl)(p1:Int)(p2:Sl)(p3:Int)(V:View)(R:Value->View->Prop)(I0:Unit->L_waveportlaw07_are_0->View->Prop)(I1:Unit->L_waveportlaw07_are_1->View->Prop)(E0:Unit->L_waveportlaw07_are_0->View->Prop)(E1:Unit->L_waveportlaw07_are_1->View->Prop)(B1:Unit->L_waveportlaw07_are_1->View->L_waveportlaw07_are_1->View->Prop):Prop :=
 ((((p1:Int) != 0)=true ->
 (true=true ->
 (true=true ->
 R (.bool false) V) /\
 (true=false ->
 E0 () (L_waveportlaw07_are_0.mk ()) V)) /\
 (true=false ->
 ((((p0.len:Int):Int) != (p2.len:Int))=true ->
 R (.bool false) V) /\
 ((((p0.len:Int):Int) != (p2.len:Int))=false ->
 E0 () (L_waveportlaw07_are_0.mk ()) V))) /\
 (((p1:Int) != 0)=false ->
 (((p3:Int) != 0)=true ->
 (true=true ->
 R (.bool false) V) /\
 (true=false ->
 E0 () (L_waveportlaw07_are_0.mk ()) V)) /\
 (((p3:Int) != 0)=false ->
 ((((p0.len:Int):Int) != (p2.len:Int))=true ->
 R (.bool false) V) /\
 ((((p0.len:Int):Int) != (p2.len:Int))=false ->
 E0 () (L_waveportlaw07_are_0.mk ()) V)))) /\
 (∀(x1:L_waveportlaw07_are_0) (V1:View),View.le V V1->I0 () x1 V1 ->
 E1 () (L_waveportlaw07_are_1.mk 0) V1 /\
 (∀(x7:L_waveportlaw07_are_1) (V2:View),View.le V1 V2->I1 () x7 V2 ->
 ((decide ((x7.t25:Int)<(p0.len:Int)))=true ->
 ((0:Int)<=x7.t25/\(x7.t25:Int)<(p0.len:Nat)/\Option.isSome p0.a=true) /\
 ∃x8:NumV,View.has V2 (Option.map (λq=>Addr.add q (Int.toNat x7.t25*5)) p0.a) (x8.val).cells.toList/\Option.isSome (Option.map (λq=>Addr.add q (Int.toNat x7.t25*5)) p0.a)=true /\
 ((0:Int)<=x7.t25/\(x7.t25:Int)<(p2.len:Nat)/\Option.isSome p2.a=true) /\
 ∃x9:NumV,View.has V2 (Option.map (λq=>Addr.add q (Int.toNat x7.t25*5)) p2.a) (x9.val).cells.toList/\Option.isSome (Option.map (λq=>Addr.add q (Int.toNat x7.t25*5)) p2.a)=true /\
 CallV Try.prog 9 #[x8.val,x9.val] V2 λv V3=>∃r1:Bool,v = .bool r1 /\
 ((!r1)=true ->
 R (.bool false) V3) /\
 ((!r1)=false ->
 B1 () (L_waveportlaw07_are_1.mk (i64.wrap (x7.t25+1))) V3 x7 V2)) /\
 ((decide ((x7.t25:Int)<(p0.len:Int)))=false ->
 R (.bool true) V2)))
theorem waveportlaw07_are_v0(p0:Sl)(p1:Int)(p2:Sl)(p3:Int)(V:View)(R:Value->View->Prop)(I0:Unit->L_waveportlaw07_are_0->View->Prop)(I1:Unit->L_waveportlaw07_are_1->View->Prop)(J1:Unit->L_waveportlaw07_are_1->View->Nat){X:Prop}(e:waveportlaw07_are_sk p0 p1 p2 p3 V R I0 I1 I0 I1 (λc w V x U=>I1 c w V/\J1 c w V<J1 c x U)=X)(h:X) :
 CallV Try.prog 7 #[p0.v,.int .i64 p1,p2.v,.int .i64 p3] V R :=
 calls_of_vc (Shp:=Shp) hmixed Try.func7 (c:=Try.f7.body.getD .skip) (args:=[p0.v,.int .i64 p1,p2.v,.int .i64 p3]) (by kernel_rfl)
 (.seq (.reg [A 8 2]) (.cut Unit L_waveportlaw07_are_0 (λ_=>()) (λc x=>{ tm:=spT 39 0 [(0,.val p0.v),(2,.val p2.v)],own:=spO 39 0 [] }) I0 (.seq (.reg [A 10 2,A 11 0,⟨12,2,true⟩,A 13 2,A 14 0,A 15 2,⟨16,2,true⟩,A 17 2,A 18 0,A 19 2,A 20 0,A 21 0,A 22 2]) (.cond (.seq (.reg [A 8 2]) .leaf) .leaf)) (.seq (.seq (.reg [A 23 2,A 24 0,A 25 2]) (.block (.loop Unit L_waveportlaw07_are_1 (λ_=>()) (λc x=>{ tm:=spT 39 0 [(0,.val p0.v),(2,.val p2.v),(24,.val (.int .i64 (p0.len:Int))),(25,.val (.int .i64 x.t25))],own:=spO 39 0 [] }) I1 J1 (.seq (.reg [A 26 0]) (.seq (.cond .leaf .leaf) (.seq (.block (.seq (.reg [A 27 2,A 9 2]) (.seq (.draw [(0,A 28 2),(1,A 29 2),(2,A 30 7),(3,A 31 5),(4,A 32 2),(5,A 33 2),(6,A 34 7),(7,A 35 5),(8,A 36 10),(9,A 37 0)] [0,0,3,7,0,0,48,112,255,511]) (.cond (.seq (.reg [A 8 2]) .leaf) .leaf)))) (.reg [A 38 0,A 25 2]))))))) (.seq (.reg [A 8 2]) .leaf))))
 (Eq.mpr (by kernel_rfl) (show waveportlaw07_are_sk p0 p1 p2 p3 V R I0 I1 (λc w V=>∃x,waveportlaw07_are_f0 p0 p2 c w x/\I0 c x V) (λc w V=>∃x,waveportlaw07_are_f1 p0 p2 c w x/\I1 c x V) (λc w V y U=>∃x,waveportlaw07_are_f1 p0 p2 c w x/\I1 c x V/\J1 c x V<J1 c y U)from by
 have h:=Eq.mpr e h; unfold waveportlaw07_are_sk at h ⊢; have Ee0:=λc w V (h:I0 c w V)=>(⟨w,⟨⟨rfl,rfl,trivial⟩,trivial⟩,h⟩:∃x,waveportlaw07_are_f0 p0 p2 c w x/\I0 c x V); have Ee1:=λc w V (h:I1 c w V)=>(⟨w,⟨⟨rfl,rfl,rfl,rfl,trivial⟩,trivial⟩,h⟩:∃x,waveportlaw07_are_f1 p0 p2 c w x/\I1 c x V); have Bb1:=λc w V y U (h:I1 c w V/\J1 c w V<J1 c y U)=>(⟨w,⟨⟨rfl,rfl,rfl,rfl,trivial⟩,trivial⟩,h⟩:∃x,waveportlaw07_are_f1 p0 p2 c w x/\I1 c x V/\J1 c x V<J1 c y U); exact⟨⟨λh7=>⟨λh3=>⟨λh1=>(((h.1.1 h7).1 h3).1 h1),λh1=>(Ee0 _ _ _ (((h.1.1 h7).1 h3).2 h1))⟩,λh3=>⟨λh2=>(((h.1.1 h7).2 h3).1 h2),λh2=>(Ee0 _ _ _ (((h.1.1 h7).2 h3).2 h2))⟩⟩,λh7=>⟨λh6=>⟨λh4=>(((h.1.2 h7).1 h6).1 h4),λh4=>(Ee0 _ _ _ (((h.1.2 h7).1 h6).2 h4))⟩,λh6=>⟨λh5=>(((h.1.2 h7).2 h6).1 h5),λh5=>(Ee0 _ _ _ (((h.1.2 h7).2 h6).2 h5))⟩⟩⟩,λx1 V1 h20 h21=>⟨(Ee1 _ _ _ (h.2 x1 V1 h20 h21).1),λx7 V2 h18 h19=>⟨λh17=>⟨(((h.2 x1 V1 h20 h21).2 x7 V2 h18 h19).1 h17).1,(match (((h.2 x1 V1 h20 h21).2 x7 V2 h18 h19).1 h17).2 with|⟨x8,h15,h16,h14⟩=>⟨x8,h15,h16,⟨h14.1,(match h14.2 with|⟨x9,h12,h13,h11⟩=>⟨x9,h12,h13,(CallV.mono h11 (λ_ _ _ ⟨r1,h10,h9⟩=>⟨r1,h10,⟨λh8=>(h9.1 h8),λh8=>(Bb1 _ _ _ _ _ (h9.2 h8))⟩⟩))⟩)⟩⟩)⟩,λh17=>(((h.2 x1 V1 h20 h21).2 x7 V2 h18 h19).2 h17)⟩⟩⟩))
theorem waveportlaw07_are_vc:type_of% (λp0 p1 p2 p3 V R I0 I1 J1=>waveportlaw07_are_v0 p0 p1 p2 p3 V R I0 I1 J1 (waveportlaw07_are_sk.eq_1 ..)):=λp0 p1 p2 p3 V R I0 I1 J1=>waveportlaw07_are_v0 p0 p1 p2 p3 V R I0 I1 J1 (waveportlaw07_are_sk.eq_1 ..)
