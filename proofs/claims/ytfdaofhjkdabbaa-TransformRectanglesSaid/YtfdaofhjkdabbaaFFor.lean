/- Part of the proof; it has the parts FFor. -/
import Derived.Test.YtfdaofhjkdabbaaFText
set_option maxRecDepth 100000
set_option maxHeartbeats 4000000
namespace Go.Proofs.Ytfdaofhjkdabbaa
open Go Go.Vc Go.Proofs
open Go.IntKind (i8 i16 i32 i64 u8 u16 u32 u64)
theorem waveportlaw07_small_vc(p0:RatV)(V:View)(R:Value->View->Prop)
 (h :
 ((decide (((Int.tmod p0.den 6):Int)<0))=true ->
 R ((RatV.mk (Int.tmod p0.re 21) (Int.tmod p0.im 21) (i64.wrap ((i64.wrap (0-(Int.tmod p0.den 6)))+1))).val) V) /\
 ((decide (((Int.tmod p0.den 6):Int)<0))=false ->
 R ((RatV.mk (Int.tmod p0.re 21) (Int.tmod p0.im 21) (i64.wrap ((Int.tmod p0.den 6)+1))).val) V)) :
 CallV Try.prog 69 #[p0.val] V R :=
 calls_of_vc (Shp:=Shp) hmixed Try.func69 (c:=Try.f69.body.getD .skip) (args:=[p0.val]) (by kernel_rfl)
 (.seq (.reg [A 1 3,A 2 3]) (.seq (.reg [A 4 7,A 1 4,A 6 0,A 3 2]) (.seq (.seq (.reg [A 7 2,A 8 0]) (.cond (.reg [A 9 2,A 10 0,A 3 2]) .leaf)) (.seq (.reg [A 11 7,A 1 4,A 13 0,A 14 7,A 1 4,A 16 0,A 17 2,A 18 0,A 19 0,A 2 6]) .leaf))))
 (Eq.mpr (by kernel_rfl) h)
structure L_waveportlaw07_repeated_0 where(t11:Int)(o8:List Value)
def waveportlaw07_repeated_f0(p0:Sl)(p1:Int)(_c:Unit)(w x:L_waveportlaw07_repeated_0):Prop:=(Q1 (.val p0.v)/\Q1 (.osl 8 0 (Int.toNat p1) (Int.toNat p1))/\Q1 (.val (.int .i64 ((Int.toNat p1:Nat):Int)))/\E2 (.val (.int .i64 w.t11)) (.val (.int .i64 x.t11))/\True)/\(O2 ⟨59,.dyn w.o8⟩ ⟨59,.dyn x.o8⟩/\True)
def waveportlaw07_repeated_sk(p0:Sl)(p1:Int)(V:View)(R:Value->View->Prop)(I0:Unit->L_waveportlaw07_repeated_0->View->Prop)(E0:Unit->L_waveportlaw07_repeated_0->View->Prop)(B0:Unit->L_waveportlaw07_repeated_0->View->L_waveportlaw07_repeated_0->View->Prop):Prop :=
 ((0:Int)<=p1/\(p1:Int)<=p1/\(24:Int)*p1<=281474976710656/\(p1:Int)<=9223372036854775807) /\
 E0 () (L_waveportlaw07_repeated_0.mk 0 ((List.replicate (Int.toNat p1) [Value.int .i64 0,Value.int .i64 0,Value.int .i64 0]).flatten)) V /\
 (∀(x2:L_waveportlaw07_repeated_0) (V1:View),View.le V V1->I0 () x2 V1 ->
 ((decide ((x2.t11:Int)<((Int.toNat p1:Nat):Int)))=true ->
 ((decide (((p0.len:Int):Int)>0))=true ->
 ((p0.len:Int):Int)≠0 /\
 ((0:Int)<=(Int.tmod x2.t11 (p0.len:Int))/\((Int.tmod x2.t11 (p0.len:Int)):Int)<(p0.len:Nat)/\Option.isSome p0.a=true) /\
 ∃x3:RatV,View.has V1 (Option.map (λq=>Addr.add q (Int.toNat (Int.tmod x2.t11 (p0.len:Int))*3)) p0.a) (x3.val).cells.toList/\Option.isSome (Option.map (λq=>Addr.add q (Int.toNat (Int.tmod x2.t11 (p0.len:Int))*3)) p0.a)=true /\
 CallV Try.prog 69 #[x3.val] V1 λv V2=>∃r1:RatV,v=r1.val /\
 ((0:Int)<=x2.t11/\(x2.t11:Int)<(Int.toNat p1:Nat)) /\
 0+Int.toNat x2.t11*3+3<=List.length x2.o8 /\
 B0 () (L_waveportlaw07_repeated_0.mk (i64.wrap (x2.t11+1)) (setL x2.o8 (0+Int.toNat x2.t11*3) [.int .i64 r1.re,.int .i64 r1.im,.int .i64 r1.den])) V2 x2 V1) /\
 ((decide (((p0.len:Int):Int)>0))=false ->
 B0 () (L_waveportlaw07_repeated_0.mk (i64.wrap (x2.t11+1)) x2.o8) V1 x2 V1)) /\
 ((decide ((x2.t11:Int)<((Int.toNat p1:Nat):Int)))=false ->
 ∀(b1:Nat) (V3:View),View.le V1 V3->V3 b1=some (List.toArray x2.o8) ->
 R ((Sl.mk (some (Addr.mk b1 0 none)) (Int.toNat p1) (Int.toNat p1)).v) V3))
theorem waveportlaw07_repeated_v0(p0:Sl)(p1:Int)(V:View)(R:Value->View->Prop)(I0:Unit->L_waveportlaw07_repeated_0->View->Prop)(J0:Unit->L_waveportlaw07_repeated_0->View->Nat){X:Prop}(e:waveportlaw07_repeated_sk p0 p1 V R I0 I0 (λc w V x U=>I0 c w V/\J0 c w V<J0 c x U)=X)(h:X) :
 CallV Try.prog 35 #[p0.v,.int .i64 p1] V R :=
 calls_of_vc (Shp:=Shp) hmixed Try.func35 (c:=Try.f35.body.getD .skip) (args:=[p0.v,.int .i64 p1]) (by kernel_rfl)
 (.seq (.reg [A 4 2]) (.seq (.reg [A 7 2,A 8 3,A 5 2]) (.seq (.seq (.reg [A 9 2,A 10 7,A 11 2]) (.block (.loop Unit L_waveportlaw07_repeated_0 (λ_=>()) (λc x=>{ tm:=spT 30 0 [(0,.val p0.v),(5,.osl 8 0 (Int.toNat p1) (Int.toNat p1)),(10,.val (.int .i64 ((Int.toNat p1:Nat):Int))),(11,.val (.int .i64 x.t11))],own:=spO 30 0 [(8,⟨59,.dyn x.o8⟩)] }) I0 J0 (.seq (.reg [A 12 0]) (.seq (.cond .leaf .leaf) (.seq (.block (.seq (.reg [A 13 2,A 6 2]) (.seq (.reg [A 14 2,A 15 0,A 16 0]) (.cond (.reg [A 17 2,A 18 2,A 19 2,A 20 2,A 21 2,A 22 0,A 23 12,A 24 7,A 25 5,A 26 10,A 27 7,A 8 6]) .leaf)))) (.reg [A 28 0,A 11 2]))))))) (.seq (.reg [A 29 2,A 4 2]) (.pub 8 .leaf)))))
 (Eq.mpr (by kernel_rfl) (show waveportlaw07_repeated_sk p0 p1 V R I0 (λc w V=>∃x,waveportlaw07_repeated_f0 p0 p1 c w x/\I0 c x V) (λc w V y U=>∃x,waveportlaw07_repeated_f0 p0 p1 c w x/\I0 c x V/\J0 c x V<J0 c y U)from by
 have h:=Eq.mpr e h; unfold waveportlaw07_repeated_sk at h ⊢; have Ee0:=λc w V (h:I0 c w V)=>(⟨w,⟨⟨rfl,rfl,rfl,rfl,trivial⟩,⟨rfl,trivial⟩⟩,h⟩:∃x,waveportlaw07_repeated_f0 p0 p1 c w x/\I0 c x V); have Bb0:=λc w V y U (h:I0 c w V/\J0 c w V<J0 c y U)=>(⟨w,⟨⟨rfl,rfl,rfl,rfl,trivial⟩,⟨rfl,trivial⟩⟩,h⟩:∃x,waveportlaw07_repeated_f0 p0 p1 c w x/\I0 c x V/\J0 c x V<J0 c y U); exact⟨h.1,⟨(Ee0 _ _ _ h.2.1),λx2 V1 h10 h11=>⟨λh9=>⟨λh6=>⟨(((h.2.2 x2 V1 h10 h11).1 h9).1 h6).1,⟨(((h.2.2 x2 V1 h10 h11).1 h9).1 h6).2.1,(match (((h.2.2 x2 V1 h10 h11).1 h9).1 h6).2.2 with|⟨x3,h4,h5,h3⟩=>⟨x3,h4,h5,(CallV.mono h3 (λ_ _ _ ⟨r1,h2,h1⟩=>⟨r1,h2,⟨h1.1,⟨h1.2.1,(Bb0 _ _ _ _ _ h1.2.2)⟩⟩⟩))⟩)⟩⟩,λh6=>(Bb0 _ _ _ _ _ (((h.2.2 x2 V1 h10 h11).1 h9).2 h6))⟩,λh9=>(λb1 V3 h7 h8=>(((h.2.2 x2 V1 h10 h11).2 h9) b1 V3 h7 h8))⟩⟩⟩))
theorem waveportlaw07_repeated_vc:type_of% (λp0 p1 V R I0 J0=>waveportlaw07_repeated_v0 p0 p1 V R I0 J0 (waveportlaw07_repeated_sk.eq_1 ..)):=λp0 p1 V R I0 J0=>waveportlaw07_repeated_v0 p0 p1 V R I0 J0 (waveportlaw07_repeated_sk.eq_1 ..)
structure L_transform_conjugates_num_Num__0 where(t10:Int)(o7:List Value)
def transform_conjugates_num_Num__f0(p0:Sl)(_c:Unit)(w x:L_transform_conjugates_num_Num__0):Prop:=(Q1 (.val p0.v)/\Q1 (.osl 7 0 (Int.toNat (p0.len:Int)) (Int.toNat (p0.len:Int)))/\Q1 (.val (.int .i64 (p0.len:Int)))/\E2 (.val (.int .i64 w.t10)) (.val (.int .i64 x.t10))/\True)/\(O2 ⟨34,.dyn w.o7⟩ ⟨34,.dyn x.o7⟩/\True)
def transform_conjugates_num_Num__sk(p0:Sl)(V:View)(R:Value->View->Prop)(I0:Unit->L_transform_conjugates_num_Num__0->View->Prop)(E0:Unit->L_transform_conjugates_num_Num__0->View->Prop)(B0:Unit->L_transform_conjugates_num_Num__0->View->L_transform_conjugates_num_Num__0->View->Prop):Prop :=
 ((0:Int)<=(p0.len:Int)/\((p0.len:Int):Int)<=(p0.len:Int)/\(88:Int)*(p0.len:Int)<=281474976710656/\((p0.len:Int):Int)<=9223372036854775807) /\
 E0 () (L_transform_conjugates_num_Num__0.mk 0 ((List.replicate (Int.toNat (p0.len:Int)) [Value.bool false,Value.slice none 0 0,Value.bool false,Value.slice none 0 0,Value.slice none 0 0]).flatten)) V /\
 (∀(x2:L_transform_conjugates_num_Num__0) (V1:View),View.le V V1->I0 () x2 V1 ->
 ((decide ((x2.t10:Int)<(p0.len:Int)))=true ->
 ((0:Int)<=x2.t10/\(x2.t10:Int)<(p0.len:Nat)/\Option.isSome p0.a=true) /\
 ∃x3:NumV,View.has V1 (Option.map (λq=>Addr.add q (Int.toNat x2.t10*5)) p0.a) (x3.val).cells.toList/\Option.isSome (Option.map (λq=>Addr.add q (Int.toNat x2.t10*5)) p0.a)=true /\
 CallV Try.prog 142 #[x3.val] V1 λv V2=>∃r1:NumV,v=r1.val /\
 ((0:Int)<=x2.t10/\(x2.t10:Int)<(Int.toNat (p0.len:Int):Nat)) /\
 0+Int.toNat x2.t10*5+5<=List.length x2.o7 /\
 B0 () (L_transform_conjugates_num_Num__0.mk (i64.wrap (x2.t10+1)) (setL x2.o7 (0+Int.toNat x2.t10*5) [.bool r1.re.neg,r1.re.mag.v,.bool r1.im.neg,r1.im.mag.v,r1.under.v])) V2 x2 V1) /\
 ((decide ((x2.t10:Int)<(p0.len:Int)))=false ->
 ∀(b1:Nat) (V3:View),View.le V1 V3->V3 b1=some (List.toArray x2.o7) ->
 R ((Sl.mk (some (Addr.mk b1 0 none)) (Int.toNat (p0.len:Int)) (Int.toNat (p0.len:Int))).v) V3))
theorem transform_conjugates_num_Num__v0(p0:Sl)(V:View)(R:Value->View->Prop)(I0:Unit->L_transform_conjugates_num_Num__0->View->Prop)(J0:Unit->L_transform_conjugates_num_Num__0->View->Nat){X:Prop}(e:transform_conjugates_num_Num__sk p0 V R I0 I0 (λc w V x U=>I0 c w V/\J0 c w V<J0 c x U)=X)(h:X) :
 CallV Try.prog 86 #[p0.v] V R :=
 calls_of_vc (Shp:=Shp) hmixed Try.func86 (c:=Try.f86.body.getD .skip) (args:=[p0.v]) (by kernel_rfl)
 (.seq (.reg [A 2 2]) (.seq (.reg [A 5 2,A 6 0,A 7 3,A 3 2]) (.seq (.seq (.reg [A 8 2,A 9 0,A 10 2]) (.block (.loop Unit L_transform_conjugates_num_Num__0 (λ_=>()) (λc x=>{ tm:=spT 24 0 [(0,.val p0.v),(3,.osl 7 0 (Int.toNat (p0.len:Int)) (Int.toNat (p0.len:Int))),(9,.val (.int .i64 (p0.len:Int))),(10,.val (.int .i64 x.t10))],own:=spO 24 0 [(7,⟨34,.dyn x.o7⟩)] }) I0 J0 (.seq (.reg [A 11 0]) (.seq (.cond .leaf .leaf) (.seq (.block (.seq (.reg [A 12 2,A 4 2]) (.reg [A 13 2,A 14 2,A 15 2,A 16 2,A 17 7,A 18 5,A 19 0,A 20 10,A 21 7,A 7 6]))) (.reg [A 22 0,A 10 2]))))))) (.seq (.reg [A 23 2,A 2 2]) (.pub 7 .leaf)))))
 (Eq.mpr (by kernel_rfl) (show transform_conjugates_num_Num__sk p0 V R I0 (λc w V=>∃x,transform_conjugates_num_Num__f0 p0 c w x/\I0 c x V) (λc w V y U=>∃x,transform_conjugates_num_Num__f0 p0 c w x/\I0 c x V/\J0 c x V<J0 c y U)from by
 have h:=Eq.mpr e h; unfold transform_conjugates_num_Num__sk at h ⊢; have Ee0:=λc w V (h:I0 c w V)=>(⟨w,⟨⟨rfl,rfl,rfl,rfl,trivial⟩,⟨rfl,trivial⟩⟩,h⟩:∃x,transform_conjugates_num_Num__f0 p0 c w x/\I0 c x V); have Bb0:=λc w V y U (h:I0 c w V/\J0 c w V<J0 c y U)=>(⟨w,⟨⟨rfl,rfl,rfl,rfl,trivial⟩,⟨rfl,trivial⟩⟩,h⟩:∃x,transform_conjugates_num_Num__f0 p0 c w x/\I0 c x V/\J0 c x V<J0 c y U); exact⟨h.1,⟨(Ee0 _ _ _ h.2.1),λx2 V1 h9 h10=>⟨λh8=>⟨((h.2.2 x2 V1 h9 h10).1 h8).1,(match ((h.2.2 x2 V1 h9 h10).1 h8).2 with|⟨x3,h4,h5,h3⟩=>⟨x3,h4,h5,(CallV.mono h3 (λ_ _ _ ⟨r1,h2,h1⟩=>⟨r1,h2,⟨h1.1,⟨h1.2.1,(Bb0 _ _ _ _ _ h1.2.2)⟩⟩⟩))⟩)⟩,λh8=>(λb1 V3 h6 h7=>(((h.2.2 x2 V1 h9 h10).2 h8) b1 V3 h6 h7))⟩⟩⟩))
theorem transform_conjugates_num_Num__vc:type_of% (λp0 V R I0 J0=>transform_conjugates_num_Num__v0 p0 V R I0 J0 (transform_conjugates_num_Num__sk.eq_1 ..)):=λp0 V R I0 J0=>transform_conjugates_num_Num__v0 p0 V R I0 J0 (transform_conjugates_num_Num__sk.eq_1 ..)
theorem transform_of_num_Num__vc(p0:Int)(p1:Int)(V:View)(R:Value->View->Prop)
 (h :
 CallV Try.prog 29 #[.int .i64 p0,.int .i64 0,.int .i64 p1] V λv V1=>∃(r1:NumV) (r2:Int),v = .tuple #[r1.val,.int .i64 r2] /\
 CallV Try.prog 143 #[(NumV.mk (WhV.mk false (Sl.mk none 0 0)) (WhV.mk false (Sl.mk none 0 0)) (Sl.mk none 0 0)).val,r1.val] V1 λv V2=>∃r3:NumV,v=r3.val /\
 R (r3.val) V2) :
 CallV Try.prog 37 #[.int .i64 p0,.int .i64 p1] V R :=
 calls_of_vc (Shp:=Shp) hmixed Try.func37 (c:=Try.f37.body.getD .skip) (args:=[.int .i64 p0,.int .i64 p1]) (by kernel_rfl)
 (.seq (.reg [A 4 3]) (.seq (.reg [A 5 3]) (.seq (.reg [A 9 2,A 10 2,A 11 10,A 8 2,A 12 0,A 13 0,A 6 3,A 6 6,A 7 2]) (.seq (.reg [A 5 4,A 15 0,A 6 4,A 17 10,A 4 6]) .leaf))))
 (Eq.mpr (by kernel_rfl) h)
structure L_transform_shares_num_Num__0 where(t10:Int)(o0:List Value)
structure C_transform_shares_num_Num__0 where(o3:NumV)
def transform_shares_num_Num__f0(p0o:Nat)(p0l:Nat)(p0c:Nat)(c:C_transform_shares_num_Num__0)(w x:L_transform_shares_num_Num__0):Prop:=(Q1 (.osl 0 p0o p0l p0c)/\Q1 (.own 3 0)/\Q1 (.val (.int .i64 ((p0l:Nat):Int)))/\E2 (.val (.int .i64 w.t10)) (.val (.int .i64 x.t10))/\True)/\(O2 ⟨34,.dyn w.o0⟩ ⟨34,.dyn x.o0⟩/\O2 ⟨34,.fixed [.val (.bool c.o3.re.neg),.val c.o3.re.mag.v,.val (.bool c.o3.im.neg),.val c.o3.im.mag.v,.val c.o3.under.v]⟩ ⟨34,.fixed [.val (.bool c.o3.re.neg),.val c.o3.re.mag.v,.val (.bool c.o3.im.neg),.val c.o3.im.mag.v,.val c.o3.under.v]⟩/\True)
def transform_shares_num_Num__sk(p0o p0l p0c:Nat)(p0w:List Value) (V:View)(R:List Value->View->Prop)(I0:C_transform_shares_num_Num__0->L_transform_shares_num_Num__0->View->Prop)(E0:C_transform_shares_num_Num__0->L_transform_shares_num_Num__0->View->Prop)(B0:C_transform_shares_num_Num__0->L_transform_shares_num_Num__0->View->L_transform_shares_num_Num__0->View->Prop):Prop :=
 CallV Try.prog 37 #[.int .i64 1,.int .i64 ((p0l:Nat):Int)] V λv V1=>∃r1:NumV,v=r1.val /\
 E0 (C_transform_shares_num_Num__0.mk r1) (L_transform_shares_num_Num__0.mk 0 p0w) V1 /\
 (∀(x2:L_transform_shares_num_Num__0) (V2:View),View.le V1 V2->I0 (C_transform_shares_num_Num__0.mk r1) x2 V2 ->
 ((decide ((x2.t10:Int)<((p0l:Nat):Int)))=true ->
 ((0:Int)<=x2.t10/\(x2.t10:Int)<(p0l:Nat)) /\
 ∃x3:NumV,List.take 5 (List.drop (p0o+Int.toNat x2.t10*5) x2.o0)=(x3.val).cells.toList /\
 CallV Try.prog 12 #[x3.val,r1.val] V2 λv V3=>∃r2:NumV,v=r2.val /\
 ((0:Int)<=x2.t10/\(x2.t10:Int)<(p0l:Nat)) /\
 p0o+Int.toNat x2.t10*5+5<=List.length x2.o0 /\
 B0 (C_transform_shares_num_Num__0.mk r1) (L_transform_shares_num_Num__0.mk (i64.wrap (x2.t10+1)) (setL x2.o0 (p0o+Int.toNat x2.t10*5) [.bool r2.re.neg,r2.re.mag.v,.bool r2.im.neg,r2.im.mag.v,r2.under.v])) V3 x2 V2) /\
 ((decide ((x2.t10:Int)<((p0l:Nat):Int)))=false ->
 (p0o=p0o/\p0l=p0l/\p0c=p0c)/\R x2.o0 V2))
theorem transform_shares_num_Num__v0(p0o p0l p0c:Nat)(p0w:List Value) (V:View)(R:List Value->View->Prop)(I0:C_transform_shares_num_Num__0->L_transform_shares_num_Num__0->View->Prop)(J0:C_transform_shares_num_Num__0->L_transform_shares_num_Num__0->View->Nat){X:Prop}(e:transform_shares_num_Num__sk p0o p0l p0c p0w V R I0 I0 (λc w V x U=>I0 c w V/\J0 c w V<J0 c x U)=X)(h:X) :
 CallDS Try.prog 85 (λb=>(Value.slice (some ⟨b,p0o,none⟩) p0l p0c::[]:List Value)) 34 p0w V R :=
 calls_of_vcDS (Shp:=Shp) (l:=p0w) (off:=p0o) (len:=p0l) (cap:=p0c) hmixed Try.func85 (c:=Try.f85.body.getD .skip) (args:=[]) (by kernel_rfl)
 (.seq (.reg [A 2 2]) (.seq (.reg [A 5 2,A 6 7,A 7 10,A 3 3,A 3 6]) (.seq (.seq (.reg [A 8 2,A 9 7,A 10 2]) (.block (.loop C_transform_shares_num_Num__0 L_transform_shares_num_Num__0 (λσ=>C_transform_shares_num_Num__0.mk ((NumV.mk (WhV.mk (gBool (gOwn σ 3 0)) (Sl.mk (gSlA (gOwn σ 3 1)) (gSlL (gOwn σ 3 1)) (gSlC (gOwn σ 3 1)))) (WhV.mk (gBool (gOwn σ 3 2)) (Sl.mk (gSlA (gOwn σ 3 3)) (gSlL (gOwn σ 3 3)) (gSlC (gOwn σ 3 3)))) (Sl.mk (gSlA (gOwn σ 3 4)) (gSlL (gOwn σ 3 4)) (gSlC (gOwn σ 3 4)))))) (λc x=>{ tm:=spT 25 0 [(0,.osl 0 p0o p0l p0c),(3,.own 3 0),(9,.val (.int .i64 ((p0l:Nat):Int))),(10,.val (.int .i64 x.t10))],own:=spO 25 0 [(0,⟨34,.dyn x.o0⟩),(3,⟨34,.fixed [.val (.bool c.o3.re.neg),.val c.o3.re.mag.v,.val (.bool c.o3.im.neg),.val c.o3.im.mag.v,.val c.o3.under.v]⟩)] }) I0 J0 (.seq (.reg [A 11 0]) (.seq (.cond .leaf .leaf) (.seq (.block (.seq (.reg [A 12 2,A 4 2]) (.draw [(0,A 13 2),(1,A 14 2),(2,A 15 2),(3,A 16 2),(4,A 17 7),(5,A 0 4),(6,A 19 0),(7,A 3 4),(8,A 21 10),(9,A 22 7),(10,A 0 6)] [0,0,0,0,12,28,60,0,252,511,1023]))) (.reg [A 23 0,A 10 2]))))))) (.seq (.reg [A 24 2,A 2 2]) .leaf))))
 (Eq.mpr (by kernel_rfl) (show transform_shares_num_Num__sk p0o p0l p0c p0w V R I0 (λc w V=>∃x,transform_shares_num_Num__f0 p0o p0l p0c c w x/\I0 c x V) (λc w V y U=>∃x,transform_shares_num_Num__f0 p0o p0l p0c c w x/\I0 c x V/\J0 c x V<J0 c y U)from by
 have h:=Eq.mpr e h; unfold transform_shares_num_Num__sk at h ⊢; have Ee0:=λc w V (h:I0 c w V)=>(⟨w,⟨⟨rfl,rfl,rfl,rfl,trivial⟩,⟨rfl,rfl,trivial⟩⟩,h⟩:∃x,transform_shares_num_Num__f0 p0o p0l p0c c w x/\I0 c x V); have Bb0:=λc w V y U (h:I0 c w V/\J0 c w V<J0 c y U)=>(⟨w,⟨⟨rfl,rfl,rfl,rfl,trivial⟩,⟨rfl,rfl,trivial⟩⟩,h⟩:∃x,transform_shares_num_Num__f0 p0o p0l p0c c w x/\I0 c x V/\J0 c x V<J0 c y U); exact(CallV.mono h (λ_ _ _ ⟨r1,h9,h8⟩=>⟨r1,h9,⟨(Ee0 _ _ _ h8.1),λx2 V2 h6 h7=>⟨λh5=>⟨((h8.2 x2 V2 h6 h7).1 h5).1,(match ((h8.2 x2 V2 h6 h7).1 h5).2 with|⟨x3,h4,h3⟩=>⟨x3,h4,(CallV.mono h3 (λ_ _ _ ⟨r2,h2,h1⟩=>⟨r2,h2,⟨h1.1,⟨h1.2.1,(Bb0 _ _ _ _ _ h1.2.2)⟩⟩⟩))⟩)⟩,λh5=>((h8.2 x2 V2 h6 h7).2 h5)⟩⟩⟩))))
theorem transform_shares_num_Num__vc:type_of% (λp0o p0l p0c p0w V R I0 J0=>transform_shares_num_Num__v0 p0o p0l p0c p0w V R I0 J0 (transform_shares_num_Num__sk.eq_1 ..)):=λp0o p0l p0c p0w V R I0 J0=>transform_shares_num_Num__v0 p0o p0l p0c p0w V R I0 J0 (transform_shares_num_Num__sk.eq_1 ..)
theorem transform_FastBack_num_Num__vc(p0:Sl)(p1:Sl)(V:View)(R:Value->View->Prop)
 (h :
 CallV Try.prog 36 #[p0.v,p1.v] V λv V1=>∃r1:Bool,v = .bool r1 /\
 ((!r1)=true ->
 R (.tuple #[(Sl.mk none 0 0).v,.int .i64 4]) V1) /\
 ((!r1)=false ->
 CallV Try.prog 86 #[p1.v] V1 λv V2=>∃r2:Sl,v=r2.v /\
 CallO Try.prog 78 #[p0.v,r2.v] 34 V2 λn1 c1 l1 rest V3=>rest=[] /\
 (c1≠0/\l1≠[]) /\
 CallDS Try.prog 85 (λb=>(Value.slice (some ⟨b,0,none⟩) n1 c1::[]:List Value)) 34 l1 V3 λl2 V4 =>
 ∀(b1:Nat) (V5:View),View.le V4 V5->V5 b1=some (List.toArray l2) ->
 R (.tuple #[(Sl.mk (some (Addr.mk b1 0 none)) n1 c1).v,.int .i64 0]) V5)) :
 CallV Try.prog 55 #[p0.v,p1.v] V R :=
 calls_of_vc (Shp:=Shp) hmixed Try.func55 (c:=Try.f55.body.getD .skip) (args:=[p0.v,p1.v]) (by kernel_rfl)
 (.seq (.reg [A 4 2,A 5 2]) (.seq (.seq (.reg [A 6 2,A 7 2,A 8 10,A 9 0]) (.cond (.seq (.reg [A 4 2,A 5 2]) .leaf) .leaf)) (.seq (.reg [A 10 2,A 11 2,A 12 10,⟨13,18,true⟩,A 13 19,A 4 2,A 5 2]) (.pub 13 .leaf))))
 (Eq.mpr (by kernel_rfl) h)
structure L_waveportlaw07_are_0 where(u:Unit)
structure L_waveportlaw07_are_1 where(t25:Int)
def waveportlaw07_are_f0(p0:Sl)(p2:Sl)(_c:Unit)(_w _x:L_waveportlaw07_are_0):Prop:=(Q1 (.val p0.v)/\Q1 (.val p2.v)/\True)/\(True)
def waveportlaw07_are_f1(p0:Sl)(p2:Sl)(_c:Unit)(w x:L_waveportlaw07_are_1):Prop:=(Q1 (.val p0.v)/\Q1 (.val p2.v)/\Q1 (.val (.int .i64 (p0.len:Int)))/\E2 (.val (.int .i64 w.t25)) (.val (.int .i64 x.t25))/\True)/\(True)
def waveportlaw07_are_sk(p0:Sl)(p1:Int)(p2:Sl)(p3:Int)(V:View)(R:Value->View->Prop)(I0:Unit->L_waveportlaw07_are_0->View->Prop)(I1:Unit->L_waveportlaw07_are_1->View->Prop)(E0:Unit->L_waveportlaw07_are_0->View->Prop)(E1:Unit->L_waveportlaw07_are_1->View->Prop)(B1:Unit->L_waveportlaw07_are_1->View->L_waveportlaw07_are_1->View->Prop):Prop :=
 ((((p1:Int) != 0)=true ->
 (true=true ->
 (true=true ->
 R (.bool false) V) /\
 (true=false ->
 E0 () (L_waveportlaw07_are_0.mk ()) V)) /\
 (true=false ->
 ((((p0.len:Int):Int) != (p2.len:Int))=true ->
 R (.bool false) V) /\
 ((((p0.len:Int):Int) != (p2.len:Int))=false ->
 E0 () (L_waveportlaw07_are_0.mk ()) V))) /\
 (((p1:Int) != 0)=false ->
 (((p3:Int) != 0)=true ->
 (true=true ->
 R (.bool false) V) /\
 (true=false ->
 E0 () (L_waveportlaw07_are_0.mk ()) V)) /\
 (((p3:Int) != 0)=false ->
 ((((p0.len:Int):Int) != (p2.len:Int))=true ->
 R (.bool false) V) /\
 ((((p0.len:Int):Int) != (p2.len:Int))=false ->
 E0 () (L_waveportlaw07_are_0.mk ()) V)))) /\
 (∀(x1:L_waveportlaw07_are_0) (V1:View),View.le V V1->I0 () x1 V1 ->
 E1 () (L_waveportlaw07_are_1.mk 0) V1 /\
 (∀(x7:L_waveportlaw07_are_1) (V2:View),View.le V1 V2->I1 () x7 V2 ->
 ((decide ((x7.t25:Int)<(p0.len:Int)))=true ->
 ((0:Int)<=x7.t25/\(x7.t25:Int)<(p0.len:Nat)/\Option.isSome p0.a=true) /\
 ∃x8:NumV,View.has V2 (Option.map (λq=>Addr.add q (Int.toNat x7.t25*5)) p0.a) (x8.val).cells.toList/\Option.isSome (Option.map (λq=>Addr.add q (Int.toNat x7.t25*5)) p0.a)=true /\
 ((0:Int)<=x7.t25/\(x7.t25:Int)<(p2.len:Nat)/\Option.isSome p2.a=true) /\
 ∃x9:NumV,View.has V2 (Option.map (λq=>Addr.add q (Int.toNat x7.t25*5)) p2.a) (x9.val).cells.toList/\Option.isSome (Option.map (λq=>Addr.add q (Int.toNat x7.t25*5)) p2.a)=true /\
 CallV Try.prog 11 #[x8.val,x9.val] V2 λv V3=>∃r1:Bool,v = .bool r1 /\
 ((!r1)=true ->
 R (.bool false) V3) /\
 ((!r1)=false ->
 B1 () (L_waveportlaw07_are_1.mk (i64.wrap (x7.t25+1))) V3 x7 V2)) /\
 ((decide ((x7.t25:Int)<(p0.len:Int)))=false ->
 R (.bool true) V2)))
theorem waveportlaw07_are_v0(p0:Sl)(p1:Int)(p2:Sl)(p3:Int)(V:View)(R:Value->View->Prop)(I0:Unit->L_waveportlaw07_are_0->View->Prop)(I1:Unit->L_waveportlaw07_are_1->View->Prop)(J1:Unit->L_waveportlaw07_are_1->View->Nat){X:Prop}(e:waveportlaw07_are_sk p0 p1 p2 p3 V R I0 I1 I0 I1 (λc w V x U=>I1 c w V/\J1 c w V<J1 c x U)=X)(h:X) :
 CallV Try.prog 9 #[p0.v,.int .i64 p1,p2.v,.int .i64 p3] V R :=
 calls_of_vc (Shp:=Shp) hmixed Try.func9 (c:=Try.f9.body.getD .skip) (args:=[p0.v,.int .i64 p1,p2.v,.int .i64 p3]) (by kernel_rfl)
 (.seq (.reg [A 8 2]) (.cut Unit L_waveportlaw07_are_0 (λ_=>()) (λc x=>{ tm:=spT 39 0 [(0,.val p0.v),(2,.val p2.v)],own:=spO 39 0 [] }) I0 (.seq (.reg [A 10 2,A 11 0,⟨12,2,true⟩,A 13 2,A 14 0,A 15 2,⟨16,2,true⟩,A 17 2,A 18 0,A 19 2,A 20 0,A 21 0,A 22 2]) (.cond (.seq (.reg [A 8 2]) .leaf) .leaf)) (.seq (.seq (.reg [A 23 2,A 24 0,A 25 2]) (.block (.loop Unit L_waveportlaw07_are_1 (λ_=>()) (λc x=>{ tm:=spT 39 0 [(0,.val p0.v),(2,.val p2.v),(24,.val (.int .i64 (p0.len:Int))),(25,.val (.int .i64 x.t25))],own:=spO 39 0 [] }) I1 J1 (.seq (.reg [A 26 0]) (.seq (.cond .leaf .leaf) (.seq (.block (.seq (.reg [A 27 2,A 9 2]) (.seq (.draw [(0,A 28 2),(1,A 29 2),(2,A 30 7),(3,A 31 5),(4,A 32 2),(5,A 33 2),(6,A 34 7),(7,A 35 5),(8,A 36 10),(9,A 37 0)] [0,0,3,7,0,0,48,112,255,511]) (.cond (.seq (.reg [A 8 2]) .leaf) .leaf)))) (.reg [A 38 0,A 25 2]))))))) (.seq (.reg [A 8 2]) .leaf))))
 (Eq.mpr (by kernel_rfl) (show waveportlaw07_are_sk p0 p1 p2 p3 V R I0 I1 (λc w V=>∃x,waveportlaw07_are_f0 p0 p2 c w x/\I0 c x V) (λc w V=>∃x,waveportlaw07_are_f1 p0 p2 c w x/\I1 c x V) (λc w V y U=>∃x,waveportlaw07_are_f1 p0 p2 c w x/\I1 c x V/\J1 c x V<J1 c y U)from by
 have h:=Eq.mpr e h; unfold waveportlaw07_are_sk at h ⊢; have Ee0:=λc w V (h:I0 c w V)=>(⟨w,⟨⟨rfl,rfl,trivial⟩,trivial⟩,h⟩:∃x,waveportlaw07_are_f0 p0 p2 c w x/\I0 c x V); have Ee1:=λc w V (h:I1 c w V)=>(⟨w,⟨⟨rfl,rfl,rfl,rfl,trivial⟩,trivial⟩,h⟩:∃x,waveportlaw07_are_f1 p0 p2 c w x/\I1 c x V); have Bb1:=λc w V y U (h:I1 c w V/\J1 c w V<J1 c y U)=>(⟨w,⟨⟨rfl,rfl,rfl,rfl,trivial⟩,trivial⟩,h⟩:∃x,waveportlaw07_are_f1 p0 p2 c w x/\I1 c x V/\J1 c x V<J1 c y U); exact⟨⟨λh7=>⟨λh3=>⟨λh1=>(((h.1.1 h7).1 h3).1 h1),λh1=>(Ee0 _ _ _ (((h.1.1 h7).1 h3).2 h1))⟩,λh3=>⟨λh2=>(((h.1.1 h7).2 h3).1 h2),λh2=>(Ee0 _ _ _ (((h.1.1 h7).2 h3).2 h2))⟩⟩,λh7=>⟨λh6=>⟨λh4=>(((h.1.2 h7).1 h6).1 h4),λh4=>(Ee0 _ _ _ (((h.1.2 h7).1 h6).2 h4))⟩,λh6=>⟨λh5=>(((h.1.2 h7).2 h6).1 h5),λh5=>(Ee0 _ _ _ (((h.1.2 h7).2 h6).2 h5))⟩⟩⟩,λx1 V1 h20 h21=>⟨(Ee1 _ _ _ (h.2 x1 V1 h20 h21).1),λx7 V2 h18 h19=>⟨λh17=>⟨(((h.2 x1 V1 h20 h21).2 x7 V2 h18 h19).1 h17).1,(match (((h.2 x1 V1 h20 h21).2 x7 V2 h18 h19).1 h17).2 with|⟨x8,h15,h16,h14⟩=>⟨x8,h15,h16,⟨h14.1,(match h14.2 with|⟨x9,h12,h13,h11⟩=>⟨x9,h12,h13,(CallV.mono h11 (λ_ _ _ ⟨r1,h10,h9⟩=>⟨r1,h10,⟨λh8=>(h9.1 h8),λh8=>(Bb1 _ _ _ _ _ (h9.2 h8))⟩⟩))⟩)⟩⟩)⟩,λh17=>(((h.2 x1 V1 h20 h21).2 x7 V2 h18 h19).2 h17)⟩⟩⟩))
theorem waveportlaw07_are_vc:type_of% (λp0 p1 p2 p3 V R I0 I1 J1=>waveportlaw07_are_v0 p0 p1 p2 p3 V R I0 I1 J1 (waveportlaw07_are_sk.eq_1 ..)):=λp0 p1 p2 p3 V R I0 I1 J1=>waveportlaw07_are_v0 p0 p1 p2 p3 V R I0 I1 J1 (waveportlaw07_are_sk.eq_1 ..)
