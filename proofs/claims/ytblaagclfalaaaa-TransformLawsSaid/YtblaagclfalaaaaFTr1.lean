/- Part of the proof; it has the parts FTr1. -/
import Derived.Test.YtblaagclfalaaaaFNum1
set_option maxRecDepth 100000
set_option maxHeartbeats 4000000
namespace Go.Proofs.Ytblaagclfalaaaa
open Go Go.Vc Go.Proofs
open Go.IntKind (i8 i16 i32 i64 u8 u16 u32 u64)
theorem transform_length_vc(p0:Int)(V:View)(R:Value->View->Prop)
 (h :
 ((decide ((p0:Int)>=1))=true ->
 ((decide ((p0:Int)<=64))=true ->
 R (.bool (((i64.wrap (BitVec.toNat ((BitVec.ofInt i64.bits p0) &&& (BitVec.ofInt i64.bits (i64.wrap (p0-1)))))):Int)==0)) V) /\
 ((decide ((p0:Int)<=64))=false ->
 R (.bool false) V)) /\
 ((decide ((p0:Int)>=1))=false ->
 (false=true ->
 R (.bool (((i64.wrap (BitVec.toNat ((BitVec.ofInt i64.bits p0) &&& (BitVec.ofInt i64.bits (i64.wrap (p0-1)))))):Int)==0)) V) /\
 (false=false ->
 R (.bool false) V))) :
 CallV Try.prog 35 #[.int .i64 p0] V R :=
 calls_of_vc (Shp:=Shp) hmixed Try.func35 (c:=Try.f35.body.getD .skip) (args:=[.int .i64 p0]) (by kernel_rfl)
 (.seq (.reg [A 2 2]) (.seq (.reg [A 3 2,A 4 0,⟨5,2,true⟩,A 6 2,A 7 0,A 8 2,⟨9,2,true⟩,A 10 2,A 11 2,A 12 0,A 13 0,A 14 0,A 15 2,A 2 2]) .leaf))
 (Eq.mpr (by kernel_rfl) h)
theorem transform_fits_num_Num__vc(p0:Sl)(p1:Sl)(V:View)(R:Value->View->Prop)
 (h :
 CallV Try.prog 35 #[.int .i64 (p1.len:Int)] V λv V1=>∃r1:Bool,v = .bool r1 /\
 (r1=true ->
 R (.bool (((p0.len:Int):Int)==(p1.len:Int))) V1) /\
 (r1=false ->
 R (.bool false) V1)) :
 CallV Try.prog 19 #[p0.v,p1.v] V R :=
 calls_of_vc (Shp:=Shp) hmixed Try.func19 (c:=Try.f19.body.getD .skip) (args:=[p0.v,p1.v]) (by kernel_rfl)
 (.seq (.reg [A 4 2]) (.seq (.reg [A 5 2,A 6 0,A 7 10,⟨8,2,true⟩,A 9 2,A 10 0,A 11 2,A 12 0,A 13 0,A 14 2,A 4 2]) .leaf))
 (Eq.mpr (by kernel_rfl) h)
structure L_transform_Exact_0 where(t7l t7c:Nat)(t8:Int)(o7:List Value)
structure C_transform_Exact_0 where(t6:Sl)
def transform_Exact_f0(p0:Int)(c:C_transform_Exact_0)(w x:L_transform_Exact_0):Prop:=(Q1 (.val (.int .i64 p0))/\Q1 (.val c.t6.v)/\E2 (.lst 7 w.t7l w.t7c) (.lst 7 x.t7l x.t7c)/\E2 (.val (.int .i64 w.t8)) (.val (.int .i64 x.t8))/\True)/\(O2 ⟨34,.list w.o7⟩ ⟨34,.list x.o7⟩/\True)
def transform_Exact_sk(p0:Int)(V:View)(R:Value->View->Prop)(I0:C_transform_Exact_0->L_transform_Exact_0->View->Prop)(E0:C_transform_Exact_0->L_transform_Exact_0->View->Prop)(B0:C_transform_Exact_0->L_transform_Exact_0->View->L_transform_Exact_0->View->Prop):Prop :=
 CallV Try.prog 35 #[.int .i64 p0] V λv V1=>∃r1:Bool,v = .bool r1 /\
 ((!r1)=true ->
 R (.tuple #[(Sl.mk none 0 0).v,.int .i64 4]) V1) /\
 ((!r1)=false ->
 ((decide ((p0:Int)>4))=true ->
 R (.tuple #[(Sl.mk none 0 0).v,.int .i64 5]) V1) /\
 ((decide ((p0:Int)>4))=false ->
 CallV Try.prog 36 #[.int .i64 0,.int .i64 (-1),.int .i64 1] V1 λv V2=>∃(r2:NumV) (r3:Int),v = .tuple #[r2.val,.int .i64 r3] /\
 CallV Try.prog 11 #[.int .i64 1] V2 λv V3=>∃r4:NumV,v=r4.val /\
 CallV Try.prog 11 #[.int .i64 (-1)] V3 λv V4=>∃r5:NumV,v=r5.val /\
 CallV Try.prog 37 #[r2.val] V4 λv V5=>∃r6:NumV,v=r6.val /\
 ∀(b1:Nat) (V6:View),View.le V5 V6->View.Fin V6->V6 b1=some #[.bool r4.re.neg,r4.re.mag.v,.bool r4.im.neg,r4.im.mag.v,r4.under.v,.bool r2.re.neg,r2.re.mag.v,.bool r2.im.neg,r2.im.mag.v,r2.under.v,.bool r5.re.neg,r5.re.mag.v,.bool r5.im.neg,r5.im.mag.v,r5.under.v,.bool r6.re.neg,r6.re.mag.v,.bool r6.im.neg,r6.im.mag.v,r6.under.v] ->
 E0 (C_transform_Exact_0.mk (Sl.mk (some (Addr.mk b1 0 none)) 4 4)) (L_transform_Exact_0.mk 0 0 0 ([]:List Value)) V6 /\
 (∀(x2:L_transform_Exact_0) (V7:View),View.le V6 V7->I0 (C_transform_Exact_0.mk (Sl.mk (some (Addr.mk b1 0 none)) 4 4)) x2 V7 ->
 ((decide ((x2.t8:Int)<4))=true ->
 ((0:Int)<=x2.t8/\(x2.t8:Int)<(4:Nat)/\Option.isSome (some (Addr.mk b1 0 none))=true) /\
 ∃x3:NumV,View.has V7 (Option.map (λq=>Addr.add q (Int.toNat x2.t8*5)) (some (Addr.mk b1 0 none))) (x3.val).cells.toList/\Option.isSome (Option.map (λq=>Addr.add q (Int.toNat x2.t8*5)) (some (Addr.mk b1 0 none)))=true /\
 ∀(b2:Nat) (V8:View),View.le V7 V8->View.Fin V8->V8 b2=some #[.bool x3.re.neg,x3.re.mag.v,.bool x3.im.neg,x3.im.mag.v,x3.under.v] ->
 ∃(l1:List Value) (l2:List Value),LstOk 5 x2.t7l x2.t7c x2.o7 l1/\View.has V8 (some (Addr.mk b2 0 none)) l2/\List.length l2=1*5/\(∀v∈l2,Value.oneCell' v=true)/\x2.t7l+1<=maxLen/\(x2.t7l+1)*88<=140737488355328 /\
 ∀(c1:Nat) (l3:List Value),LstOk 5 (x2.t7l+1) c1 l3 (l1++l2) ->
 (p0:Int)≠0 /\
 B0 (C_transform_Exact_0.mk (Sl.mk (some (Addr.mk b1 0 none)) 4 4)) (L_transform_Exact_0.mk (x2.t7l+1) c1 (i64.wrap (x2.t8+(i64.wrap (Int.tdiv 4 p0)))) l3) V8 x2 V7) /\
 ((decide ((x2.t8:Int)<4))=false ->
 ∀(b3:Nat) (V9:View),View.le V7 V9->(x2.o7≠[]->V9 b3=some (List.toArray x2.o7)) ->
 R (.tuple #[(Sl.mk (lstA b3 x2.t7c) x2.t7l x2.t7c).v,.int .i64 0]) V9))))
theorem transform_Exact_v0(p0:Int)(V:View)(R:Value->View->Prop)(I0:C_transform_Exact_0->L_transform_Exact_0->View->Prop)(J0:C_transform_Exact_0->L_transform_Exact_0->View->Nat){X:Prop}(e:transform_Exact_sk p0 V R I0 I0 (λc w V x U=>I0 c w V/\J0 c w V<J0 c x U)=X)(h:X) :
 CallV Try.prog 16 #[.int .i64 p0] V R :=
 calls_of_vc (Shp:=Shp) hmixed Try.func16 (c:=Try.f16.body.getD .skip) (args:=[.int .i64 p0]) (by kernel_rfl)
 (.seq (.reg [A 2 2,A 3 2]) (.seq (.block (.seq (.reg [A 10 2,A 11 10,A 12 0,A 9 2]) (.cond (.seq (.reg [A 2 2,A 3 2]) .leaf) (.seq (.reg [A 14 2,A 15 0,A 13 2]) (.cond (.seq (.reg [A 2 2,A 3 2]) .leaf) .leaf))))) (.seq (.reg [A 17 10,A 16 2,A 18 0,A 19 0,A 4 3,A 4 6,A 5 2]) (.seq (.draw [(1,A 4 4),(3,A 4 4),(0,A 20 10),(2,A 22 10),(4,A 24 10),(5,A 25 11),(6,A 6 2)] [0,0,1,0,13,31,63]) (.seq (.reg [A 7 2]) (.seq (.seq (.adopt 7 7 34 (.reg [A 8 2])) (.block (.loop C_transform_Exact_0 L_transform_Exact_0 (λσ=>C_transform_Exact_0.mk (Sl.mk (gSlA (gTm σ 6)) (gSlL (gTm σ 6)) (gSlC (gTm σ 6)))) (λc x=>{ tm:=spT 40 0 [(0,.val (.int .i64 p0)),(6,.val c.t6.v),(7,.lst 7 x.t7l x.t7c),(8,.val (.int .i64 x.t8))],own:=spO 40 0 [(7,⟨34,.list x.o7⟩)] }) I0 J0 (.seq (.seq (.reg [A 26 2,A 27 0]) (.cond .leaf .leaf)) (.seq (.block (.reg [A 32 2,A 33 2,A 34 2,A 35 7,A 36 5,A 37 11,A 7 13,A 7 2])) (.reg [A 28 2,A 29 2,A 30 12,A 31 0,A 8 2])))))) (.seq (.reg [A 39 2,A 2 2,A 3 2]) (.pub 7 .leaf))))))))
 (Eq.mpr (by kernel_rfl) (show transform_Exact_sk p0 V R I0 (λc w V=>∃x,transform_Exact_f0 p0 c w x/\I0 c x V) (λc w V y U=>∃x,transform_Exact_f0 p0 c w x/\I0 c x V/\J0 c x V<J0 c y U)from by
 have h:=Eq.mpr e h; unfold transform_Exact_sk at h ⊢; have Ee0:=λc w V (h:I0 c w V)=>(⟨w,⟨⟨rfl,rfl,rfl,rfl,trivial⟩,⟨rfl,trivial⟩⟩,h⟩:∃x,transform_Exact_f0 p0 c w x/\I0 c x V); have Bb0:=λc w V y U (h:I0 c w V/\J0 c w V<J0 c y U)=>(⟨w,⟨⟨rfl,rfl,rfl,rfl,trivial⟩,⟨rfl,trivial⟩⟩,h⟩:∃x,transform_Exact_f0 p0 c w x/\I0 c x V/\J0 c x V<J0 c y U); exact(CallV.mono h (λ_ _ _ ⟨r1,h34,h33⟩=>⟨r1,h34,⟨λh32=>(h33.1 h32),λh32=>⟨λh31=>((h33.2 h32).1 h31),λh31=>(CallV.mono ((h33.2 h32).2 h31) (λ_ _ _ ⟨r2,r3,h30,h29⟩=>⟨r2,r3,h30,(CallV.mono h29 (λ_ _ _ ⟨r4,h28,h27⟩=>⟨r4,h28,(CallV.mono h27 (λ_ _ _ ⟨r5,h26,h25⟩=>⟨r5,h26,(CallV.mono h25 (λ_ _ _ ⟨r6,h24,h23⟩=>⟨r6,h24,(λb1 V6 h20 h21 h22=>⟨(Ee0 _ _ _ (h23 b1 V6 h20 h21 h22).1),λx2 V7 h18 h19=>⟨λh17=>⟨(((h23 b1 V6 h20 h21 h22).2 x2 V7 h18 h19).1 h17).1,(match (((h23 b1 V6 h20 h21 h22).2 x2 V7 h18 h19).1 h17).2 with|⟨x3,h13,h14,h12⟩=>⟨x3,h13,h14,(λb2 V8 h9 h10 h11=>(match (h12 b2 V8 h9 h10 h11)with|⟨l1,l2,h3,h4,h5,h6,h7,h8,h2⟩=>⟨l1,l2,h3,h4,h5,h6,h7,h8,(λc1 l3 h1=>⟨(h2 c1 l3 h1).1,(Bb0 _ _ _ _ _ (h2 c1 l3 h1).2)⟩)⟩))⟩)⟩,λh17=>(λb3 V9 h15 h16=>((((h23 b1 V6 h20 h21 h22).2 x2 V7 h18 h19).2 h17) b3 V9 h15 h16))⟩⟩)⟩))⟩))⟩))⟩))⟩⟩⟩))))
theorem transform_Exact_vc:type_of% (λp0 V R I0 J0=>transform_Exact_v0 p0 V R I0 J0 (transform_Exact_sk.eq_1 ..)):=λp0 V R I0 J0=>transform_Exact_v0 p0 V R I0 J0 (transform_Exact_sk.eq_1 ..)
theorem law1_Of_vc(p0:RatV)(V:View)(R:Value->View->Prop)
 (h :
 (((p0.den:Int)==0)=true ->
 CallV Try.prog 36 #[.int .i64 p0.re,.int .i64 p0.im,.int .i64 1] V λv V1=>∃(r1:NumV) (r2:Int),v = .tuple #[r1.val,.int .i64 r2] /\
 R (r1.val) V1) /\
 (((p0.den:Int)==0)=false ->
 CallV Try.prog 36 #[.int .i64 p0.re,.int .i64 p0.im,.int .i64 p0.den] V λv V2=>∃(r3:NumV) (r4:Int),v = .tuple #[r3.val,.int .i64 r4] /\
 R (r3.val) V2)) :
 CallV Try.prog 38 #[p0.val] V R :=
 calls_of_vc (Shp:=Shp) hmixed Try.func38 (c:=Try.f38.body.getD .skip) (args:=[p0.val]) (by kernel_rfl)
 (.seq (.reg [A 1 3,A 2 3]) (.seq (.seq (.reg [A 5 7,A 1 4,A 7 0]) (.cond (.reg [A 8 7,A 1 6]) .leaf)) (.seq (.reg [A 10 7,A 1 4,A 12 7,A 1 4,A 14 7,A 1 4,A 16 10,A 9 2,A 17 0,A 18 0,A 3 3,A 3 6,A 4 2]) (.seq (.reg [A 3 4,A 2 6]) .leaf))))
 (Eq.mpr (by kernel_rfl) h)
structure L_law1_List_0 where(t11:Int)(o8:List Value)
def law1_List_f0(p0:Sl)(_c:Unit)(w x:L_law1_List_0):Prop:=(Q1 (.osl 8 0 (Int.toNat (p0.len:Int)) (Int.toNat (p0.len:Int)))/\Q1 (.val p0.v)/\Q1 (.val (.int .i64 (p0.len:Int)))/\E2 (.val (.int .i64 w.t11)) (.val (.int .i64 x.t11))/\True)/\(O2 ⟨34,.dyn w.o8⟩ ⟨34,.dyn x.o8⟩/\True)
def law1_List_sk(p0:Sl)(V:View)(R:Value->View->Prop)(I0:Unit->L_law1_List_0->View->Prop)(E0:Unit->L_law1_List_0->View->Prop)(B0:Unit->L_law1_List_0->View->L_law1_List_0->View->Prop):Prop :=
 ((0:Int)<=(p0.len:Int)/\((p0.len:Int):Int)<=(p0.len:Int)/\(88:Int)*(p0.len:Int)<=281474976710656/\((p0.len:Int):Int)<=9223372036854775807) /\
 E0 () (L_law1_List_0.mk 0 ((List.replicate (Int.toNat (p0.len:Int)) [Value.bool false,Value.slice none 0 0,Value.bool false,Value.slice none 0 0,Value.slice none 0 0]).flatten)) V /\
 (∀(x2:L_law1_List_0) (V1:View),View.le V V1->I0 () x2 V1 ->
 ((decide ((x2.t11:Int)<(p0.len:Int)))=true ->
 ((0:Int)<=x2.t11/\(x2.t11:Int)<(p0.len:Nat)/\Option.isSome p0.a=true) /\
 ∃x3:RatV,View.has V1 (Option.map (λq=>Addr.add q (Int.toNat x2.t11*3)) p0.a) (x3.val).cells.toList/\Option.isSome (Option.map (λq=>Addr.add q (Int.toNat x2.t11*3)) p0.a)=true /\
 CallV Try.prog 38 #[x3.val] V1 λv V2=>∃r1:NumV,v=r1.val /\
 ((0:Int)<=x2.t11/\(x2.t11:Int)<(Int.toNat (p0.len:Int):Nat)) /\
 0+Int.toNat x2.t11*5+5<=List.length x2.o8 /\
 B0 () (L_law1_List_0.mk (i64.wrap (x2.t11+1)) (setL x2.o8 (0+Int.toNat x2.t11*5) [.bool r1.re.neg,r1.re.mag.v,.bool r1.im.neg,r1.im.mag.v,r1.under.v])) V2 x2 V1) /\
 ((decide ((x2.t11:Int)<(p0.len:Int)))=false ->
 ∀(b1:Nat) (V3:View),View.le V1 V3->V3 b1=some (List.toArray x2.o8) ->
 R ((Sl.mk (some (Addr.mk b1 0 none)) (Int.toNat (p0.len:Int)) (Int.toNat (p0.len:Int))).v) V3))
theorem law1_List_v0(p0:Sl)(V:View)(R:Value->View->Prop)(I0:Unit->L_law1_List_0->View->Prop)(J0:Unit->L_law1_List_0->View->Nat){X:Prop}(e:law1_List_sk p0 V R I0 I0 (λc w V x U=>I0 c w V/\J0 c w V<J0 c x U)=X)(h:X) :
 CallV Try.prog 17 #[p0.v] V R :=
 calls_of_vc (Shp:=Shp) hmixed Try.func17 (c:=Try.f17.body.getD .skip) (args:=[p0.v]) (by kernel_rfl)
 (.seq (.reg [A 2 2]) (.seq (.reg [A 6 2,A 7 0,A 8 3,A 3 2]) (.seq (.seq (.reg [A 9 2,A 10 0,A 11 2]) (.block (.loop Unit L_law1_List_0 (λ_=>()) (λc x=>{ tm:=spT 23 0 [(3,.osl 8 0 (Int.toNat (p0.len:Int)) (Int.toNat (p0.len:Int))),(9,.val p0.v),(10,.val (.int .i64 (p0.len:Int))),(11,.val (.int .i64 x.t11))],own:=spO 23 0 [(8,⟨34,.dyn x.o8⟩)] }) I0 J0 (.seq (.reg [A 12 0]) (.seq (.cond .leaf .leaf) (.seq (.block (.seq (.reg [A 13 2,A 14 7,A 15 5,A 5 3,A 4 2,A 5 6]) (.reg [A 16 2,A 17 2,A 5 4,A 19 10,A 20 7,A 8 6]))) (.reg [A 21 0,A 11 2]))))))) (.seq (.reg [A 22 2,A 2 2]) (.pub 8 .leaf)))))
 (Eq.mpr (by kernel_rfl) (show law1_List_sk p0 V R I0 (λc w V=>∃x,law1_List_f0 p0 c w x/\I0 c x V) (λc w V y U=>∃x,law1_List_f0 p0 c w x/\I0 c x V/\J0 c x V<J0 c y U)from by
 have h:=Eq.mpr e h; unfold law1_List_sk at h ⊢; have Ee0:=λc w V (h:I0 c w V)=>(⟨w,⟨⟨rfl,rfl,rfl,rfl,trivial⟩,⟨rfl,trivial⟩⟩,h⟩:∃x,law1_List_f0 p0 c w x/\I0 c x V); have Bb0:=λc w V y U (h:I0 c w V/\J0 c w V<J0 c y U)=>(⟨w,⟨⟨rfl,rfl,rfl,rfl,trivial⟩,⟨rfl,trivial⟩⟩,h⟩:∃x,law1_List_f0 p0 c w x/\I0 c x V/\J0 c x V<J0 c y U); exact⟨h.1,⟨(Ee0 _ _ _ h.2.1),λx2 V1 h9 h10=>⟨λh8=>⟨((h.2.2 x2 V1 h9 h10).1 h8).1,(match ((h.2.2 x2 V1 h9 h10).1 h8).2 with|⟨x3,h4,h5,h3⟩=>⟨x3,h4,h5,(CallV.mono h3 (λ_ _ _ ⟨r1,h2,h1⟩=>⟨r1,h2,⟨h1.1,⟨h1.2.1,(Bb0 _ _ _ _ _ h1.2.2)⟩⟩⟩))⟩)⟩,λh8=>(λb1 V3 h6 h7=>(((h.2.2 x2 V1 h9 h10).2 h8) b1 V3 h6 h7))⟩⟩⟩))
theorem law1_List_vc:type_of% (λp0 V R I0 J0=>law1_List_v0 p0 V R I0 J0 (law1_List_sk.eq_1 ..)):=λp0 V R I0 J0=>law1_List_v0 p0 V R I0 J0 (law1_List_sk.eq_1 ..)
structure L_transform_every_num_Num__0 where(t5l t5c:Nat)(t6:Int)(o5:List Value)
def transform_every_num_Num__f0(p0:Sl)(_c:Unit)(w x:L_transform_every_num_Num__0):Prop:=(Q1 (.val p0.v)/\E2 (.lst 5 w.t5l w.t5c) (.lst 5 x.t5l x.t5c)/\E2 (.val (.int .i64 w.t6)) (.val (.int .i64 x.t6))/\True)/\(O2 ⟨34,.list w.o5⟩ ⟨34,.list x.o5⟩/\True)
def transform_every_num_Num__sk(p0:Sl)(p1:Int)(V:View)(R:Value->View->Prop)(I0:Unit->L_transform_every_num_Num__0->View->Prop)(E0:Unit->L_transform_every_num_Num__0->View->Prop)(B0:Unit->L_transform_every_num_Num__0->View->L_transform_every_num_Num__0->View->Prop):Prop :=
 E0 () (L_transform_every_num_Num__0.mk 0 0 p1 ([]:List Value)) V /\
 (∀(x2:L_transform_every_num_Num__0) (V1:View),View.le V V1->I0 () x2 V1 ->
 ((decide ((x2.t6:Int)<(p0.len:Int)))=true ->
 ((0:Int)<=x2.t6/\(x2.t6:Int)<(p0.len:Nat)/\Option.isSome p0.a=true) /\
 ∃x3:NumV,View.has V1 (Option.map (λq=>Addr.add q (Int.toNat x2.t6*5)) p0.a) (x3.val).cells.toList/\Option.isSome (Option.map (λq=>Addr.add q (Int.toNat x2.t6*5)) p0.a)=true /\
 ∀(b1:Nat) (V2:View),View.le V1 V2->View.Fin V2->V2 b1=some #[.bool x3.re.neg,x3.re.mag.v,.bool x3.im.neg,x3.im.mag.v,x3.under.v] ->
 ∃(l1:List Value) (l2:List Value),LstOk 5 x2.t5l x2.t5c x2.o5 l1/\View.has V2 (some (Addr.mk b1 0 none)) l2/\List.length l2=1*5/\(∀v∈l2,Value.oneCell' v=true)/\x2.t5l+1<=maxLen/\(x2.t5l+1)*88<=140737488355328 /\
 ∀(c1:Nat) (l3:List Value),LstOk 5 (x2.t5l+1) c1 l3 (l1++l2) ->
 B0 () (L_transform_every_num_Num__0.mk (x2.t5l+1) c1 (i64.wrap (x2.t6+2)) l3) V2 x2 V1) /\
 ((decide ((x2.t6:Int)<(p0.len:Int)))=false ->
 ∀(b2:Nat) (V3:View),View.le V1 V3->(x2.o5≠[]->V3 b2=some (List.toArray x2.o5)) ->
 R ((Sl.mk (lstA b2 x2.t5c) x2.t5l x2.t5c).v) V3))
theorem transform_every_num_Num__v0(p0:Sl)(p1:Int)(V:View)(R:Value->View->Prop)(I0:Unit->L_transform_every_num_Num__0->View->Prop)(J0:Unit->L_transform_every_num_Num__0->View->Nat){X:Prop}(e:transform_every_num_Num__sk p0 p1 V R I0 I0 (λc w V x U=>I0 c w V/\J0 c w V<J0 c x U)=X)(h:X) :
 CallV Try.prog 60 #[p0.v,.int .i64 p1] V R :=
 calls_of_vc (Shp:=Shp) hmixed Try.func60 (c:=Try.f60.body.getD .skip) (args:=[p0.v,.int .i64 p1]) (by kernel_rfl)
 (.seq (.reg [A 4 2]) (.seq (.reg [A 5 2]) (.seq (.seq (.adopt 5 5 34 (.reg [A 7 2,A 6 2])) (.block (.loop Unit L_transform_every_num_Num__0 (λ_=>()) (λc x=>{ tm:=spT 22 0 [(0,.val p0.v),(5,.lst 5 x.t5l x.t5c),(6,.val (.int .i64 x.t6))],own:=spO 22 0 [(5,⟨34,.list x.o5⟩)] }) I0 J0 (.seq (.seq (.reg [A 8 2,A 9 2,A 10 0,A 11 0]) (.cond .leaf .leaf)) (.seq (.block (.reg [A 14 2,A 15 2,A 16 2,A 17 7,A 18 5,A 19 11,A 5 13,A 5 2])) (.reg [A 12 2,A 13 0,A 6 2])))))) (.seq (.reg [A 21 2,A 4 2]) (.pub 5 .leaf)))))
 (Eq.mpr (by kernel_rfl) (show transform_every_num_Num__sk p0 p1 V R I0 (λc w V=>∃x,transform_every_num_Num__f0 p0 c w x/\I0 c x V) (λc w V y U=>∃x,transform_every_num_Num__f0 p0 c w x/\I0 c x V/\J0 c x V<J0 c y U)from by
 have h:=Eq.mpr e h; unfold transform_every_num_Num__sk at h ⊢; have Ee0:=λc w V (h:I0 c w V)=>(⟨w,⟨⟨rfl,rfl,rfl,trivial⟩,⟨rfl,trivial⟩⟩,h⟩:∃x,transform_every_num_Num__f0 p0 c w x/\I0 c x V); have Bb0:=λc w V y U (h:I0 c w V/\J0 c w V<J0 c y U)=>(⟨w,⟨⟨rfl,rfl,rfl,trivial⟩,⟨rfl,trivial⟩⟩,h⟩:∃x,transform_every_num_Num__f0 p0 c w x/\I0 c x V/\J0 c x V<J0 c y U); exact⟨(Ee0 _ _ _ h.1),λx2 V1 h18 h19=>⟨λh17=>⟨((h.2 x2 V1 h18 h19).1 h17).1,(match ((h.2 x2 V1 h18 h19).1 h17).2 with|⟨x3,h13,h14,h12⟩=>⟨x3,h13,h14,(λb1 V2 h9 h10 h11=>(match (h12 b1 V2 h9 h10 h11)with|⟨l1,l2,h3,h4,h5,h6,h7,h8,h2⟩=>⟨l1,l2,h3,h4,h5,h6,h7,h8,(λc1 l3 h1=>(Bb0 _ _ _ _ _ (h2 c1 l3 h1)))⟩))⟩)⟩,λh17=>(λb2 V3 h15 h16=>(((h.2 x2 V1 h18 h19).2 h17) b2 V3 h15 h16))⟩⟩))
theorem transform_every_num_Num__vc:type_of% (λp0 p1 V R I0 J0=>transform_every_num_Num__v0 p0 p1 V R I0 J0 (transform_every_num_Num__sk.eq_1 ..)):=λp0 p1 V R I0 J0=>transform_every_num_Num__v0 p0 p1 V R I0 J0 (transform_every_num_Num__sk.eq_1 ..)
theorem transform_Fast_num_Num__vc(p0:Sl)(p1:Sl)(V:View)(R:Value->View->Prop)
 (h :
 CallV Try.prog 19 #[p0.v,p1.v] V λv V1=>∃r1:Bool,v = .bool r1 /\
 ((!r1)=true ->
 R (.tuple #[(Sl.mk none 0 0).v,.int .i64 4]) V1) /\
 ((!r1)=false ->
 CallV Try.prog 49 #[p0.v,p1.v] V1 λv V2=>∃r2:Sl,v=r2.v /\
 R (.tuple #[r2.v,.int .i64 0]) V2)) :
 CallV Try.prog 32 #[p0.v,p1.v] V R :=
 calls_of_vc (Shp:=Shp) hmixed Try.func32 (c:=Try.f32.body.getD .skip) (args:=[p0.v,p1.v]) (by kernel_rfl)
 (.seq (.reg [A 4 2,A 5 2]) (.seq (.seq (.reg [A 6 2,A 7 2,A 8 10,A 9 0]) (.cond (.seq (.reg [A 4 2,A 5 2]) .leaf) .leaf)) (.seq (.reg [A 10 2,A 11 2,A 12 10,A 4 2,A 5 2]) .leaf)))
 (Eq.mpr (by kernel_rfl) h)
theorem transform_valid_vc(p0:GateV)(p1:Int)(V:View)(R:Value->View->Prop)
 (h :
 CallV Try.prog 35 #[.int .i64 p1] V λv V1=>∃r1:Bool,v = .bool r1 /\
 ((!r1)=true ->
 R (.int .i64 4) V1) /\
 ((!r1)=false ->
 ((decide ((p0.from_:Int)<0))=true ->
 (true=true ->
 (true=true ->
 (true=true ->
 R (.int .i64 1) V1) /\
 (true=false ->
 R (.int .i64 0) V1)) /\
 (true=false ->
 ((decide ((p0.count:Int)>p1))=true ->
 R (.int .i64 1) V1) /\
 ((decide ((p0.count:Int)>p1))=false ->
 R (.int .i64 0) V1))) /\
 (true=false ->
 ((decide ((p0.count:Int)<0))=true ->
 (true=true ->
 R (.int .i64 1) V1) /\
 (true=false ->
 R (.int .i64 0) V1)) /\
 ((decide ((p0.count:Int)<0))=false ->
 ((decide ((p0.count:Int)>p1))=true ->
 R (.int .i64 1) V1) /\
 ((decide ((p0.count:Int)>p1))=false ->
 R (.int .i64 0) V1)))) /\
 ((decide ((p0.from_:Int)<0))=false ->
 ((decide ((p0.from_:Int)>=p1))=true ->
 (true=true ->
 (true=true ->
 R (.int .i64 1) V1) /\
 (true=false ->
 R (.int .i64 0) V1)) /\
 (true=false ->
 ((decide ((p0.count:Int)>p1))=true ->
 R (.int .i64 1) V1) /\
 ((decide ((p0.count:Int)>p1))=false ->
 R (.int .i64 0) V1))) /\
 ((decide ((p0.from_:Int)>=p1))=false ->
 ((decide ((p0.count:Int)<0))=true ->
 (true=true ->
 R (.int .i64 1) V1) /\
 (true=false ->
 R (.int .i64 0) V1)) /\
 ((decide ((p0.count:Int)<0))=false ->
 ((decide ((p0.count:Int)>p1))=true ->
 R (.int .i64 1) V1) /\
 ((decide ((p0.count:Int)>p1))=false ->
 R (.int .i64 0) V1)))))) :
 CallV Try.prog 50 #[p0.val,.int .i64 p1] V R :=
 calls_of_vc (Shp:=Shp) hmixed Try.func50 (c:=Try.f50.body.getD .skip) (args:=[p0.val,.int .i64 p1]) (by kernel_rfl)
 (.seq (.reg [A 2 3,A 4 2]) (.seq (.block (.seq (.reg [A 6 2,A 7 10,A 8 0,A 5 2]) (.cond (.seq (.reg [A 4 2]) .leaf) (.seq (.reg [A 10 7,A 2 4,A 12 0,⟨13,2,true⟩,A 14 7,A 2 4,A 16 2,A 17 0,A 18 2,⟨19,2,true⟩,A 20 7,A 2 4,A 22 0,A 23 2,⟨24,2,true⟩,A 25 7,A 2 4,A 27 2,A 28 0,A 29 2,A 9 2]) (.cond (.seq (.reg [A 4 2]) .leaf) .leaf))))) (.seq (.reg [A 4 2]) .leaf)))
 (Eq.mpr (by kernel_rfl) h)
theorem transform_Rest_vc(p0:GateV)(p1:Int)(V:View)(R:Value->View->Prop)
 (h :
 CallV Try.prog 50 #[p0.val,.int .i64 p1] V λv V1=>∃r1:Int,v = .int .i64 r1 /\
 (((r1:Int) != 0)=true ->
 R (.tuple #[(GateV.mk 0 0).val,.int .i64 r1]) V1) /\
 (((r1:Int) != 0)=false ->
 (p1:Int)≠0 /\
 R (.tuple #[(GateV.mk (Int.tmod (i64.wrap (p0.from_+p0.count)) p1) (i64.wrap (p1-p0.count))).val,.int .i64 0]) V1)) :
 CallV Try.prog 33 #[p0.val,.int .i64 p1] V R :=
 calls_of_vc (Shp:=Shp) hmixed Try.func33 (c:=Try.f33.body.getD .skip) (args:=[p0.val,.int .i64 p1]) (by kernel_rfl)
 (.seq (.reg [A 2 3,A 4 3,A 5 2]) (.seq (.seq (.reg [A 2 4,A 8 2,A 9 10,A 6 2]) (.seq (.reg [A 10 2,A 11 0]) (.cond (.seq (.reg [A 12 0,A 13 2,A 4 6,A 5 2]) .leaf) .leaf))) (.seq (.draw [(0,A 14 7),(1,A 2 4),(2,A 16 7),(3,A 2 4),(4,A 18 0),(5,A 19 2),(6,A 20 12),(7,A 21 2),(8,A 22 7),(9,A 2 4),(10,A 24 0),(11,A 25 0),(12,A 4 6),(13,A 5 2)] [0,1,0,4,15,0,63,0,0,256,896,2047,4095,8191]) .leaf)))
 (Eq.mpr (by kernel_rfl) h)
theorem waveportlaw07_awake_vc (V:View)(R:Value->View->Prop)
 (h :
 CallV Try.prog 16 #[.int .i64 4] V λv V1=>∃(r1:Sl) (r2:Int),v = .tuple #[r1.v,.int .i64 r2] /\
 ∀(b1:Nat) (V2:View),View.le V1 V2->View.Fin V2->V2 b1=some #[.int .i64 1,.int .i64 0,.int .i64 0,.int .i64 2,.int .i64 0,.int .i64 0,.int .i64 3,.int .i64 0,.int .i64 0,.int .i64 4,.int .i64 0,.int .i64 0] ->
 CallV Try.prog 17 #[(Sl.mk (some (Addr.mk b1 0 none)) 4 4).v] V2 λv V3=>∃r3:Sl,v=r3.v /\
 CallV Try.prog 32 #[r3.v,r1.v] V3 λv V4=>∃(r4:Sl) (r5:Int),v = .tuple #[r4.v,.int .i64 r5] /\
 CallV Try.prog 33 #[(GateV.mk 3 2).val,.int .i64 4] V4 λv V5=>∃(r6:GateV) (r7:Int),v = .tuple #[r6.val,.int .i64 r7] /\
 (((r2:Int)==0)=true ->
 (((r5:Int)==0)=true ->
 (((r7:Int)==0)=true ->
 ((((r4.len:Int):Int)==4)=true ->
 ((0:Int)<=1/\(1:Int)<(r4.len:Nat)/\Option.isSome r4.a=true) /\
 ∃x1:NumV,View.has V5 (Option.map (λq=>Addr.add q (Int.toNat 1*5)) r4.a) (x1.val).cells.toList/\Option.isSome (Option.map (λq=>Addr.add q (Int.toNat 1*5)) r4.a)=true /\
 CallV Try.prog 34 #[x1.val] V5 λv V6=>∃r8:ByteArray,v = .string r8 /\
 ((ByteArray.toList r8==ByteArray.toList (ByteArray.mk #[45,50,43,50,105]))=true ->
 ∃c1:Bool,EqAt Try.prog 62 (r6.val) ((GateV.mk 1 2).val) c1 /\
 R (.bool c1) V6) /\
 ((ByteArray.toList r8==ByteArray.toList (ByteArray.mk #[45,50,43,50,105]))=false ->
 R (.bool false) V6)) /\
 ((((r4.len:Int):Int)==4)=false ->
 (false=true ->
 ∃c2:Bool,EqAt Try.prog 62 (r6.val) ((GateV.mk 1 2).val) c2 /\
 R (.bool c2) V5) /\
 (false=false ->
 R (.bool false) V5))) /\
 (((r7:Int)==0)=false ->
 (false=true ->
 ((0:Int)<=1/\(1:Int)<(r4.len:Nat)/\Option.isSome r4.a=true) /\
 ∃x2:NumV,View.has V5 (Option.map (λq=>Addr.add q (Int.toNat 1*5)) r4.a) (x2.val).cells.toList/\Option.isSome (Option.map (λq=>Addr.add q (Int.toNat 1*5)) r4.a)=true /\
 CallV Try.prog 34 #[x2.val] V5 λv V7=>∃r9:ByteArray,v = .string r9 /\
 ((ByteArray.toList r9==ByteArray.toList (ByteArray.mk #[45,50,43,50,105]))=true ->
 ∃c3:Bool,EqAt Try.prog 62 (r6.val) ((GateV.mk 1 2).val) c3 /\
 R (.bool c3) V7) /\
 ((ByteArray.toList r9==ByteArray.toList (ByteArray.mk #[45,50,43,50,105]))=false ->
 R (.bool false) V7)) /\
 (false=false ->
 (false=true ->
 ∃c4:Bool,EqAt Try.prog 62 (r6.val) ((GateV.mk 1 2).val) c4 /\
 R (.bool c4) V5) /\
 (false=false ->
 R (.bool false) V5)))) /\
 (((r5:Int)==0)=false ->
 (false=true ->
 ((((r4.len:Int):Int)==4)=true ->
 ((0:Int)<=1/\(1:Int)<(r4.len:Nat)/\Option.isSome r4.a=true) /\
 ∃x3:NumV,View.has V5 (Option.map (λq=>Addr.add q (Int.toNat 1*5)) r4.a) (x3.val).cells.toList/\Option.isSome (Option.map (λq=>Addr.add q (Int.toNat 1*5)) r4.a)=true /\
 CallV Try.prog 34 #[x3.val] V5 λv V8=>∃r10:ByteArray,v = .string r10 /\
 ((ByteArray.toList r10==ByteArray.toList (ByteArray.mk #[45,50,43,50,105]))=true ->
 ∃c5:Bool,EqAt Try.prog 62 (r6.val) ((GateV.mk 1 2).val) c5 /\
 R (.bool c5) V8) /\
 ((ByteArray.toList r10==ByteArray.toList (ByteArray.mk #[45,50,43,50,105]))=false ->
 R (.bool false) V8)) /\
 ((((r4.len:Int):Int)==4)=false ->
 (false=true ->
 ∃c6:Bool,EqAt Try.prog 62 (r6.val) ((GateV.mk 1 2).val) c6 /\
 R (.bool c6) V5) /\
 (false=false ->
 R (.bool false) V5))) /\
 (false=false ->
 (false=true ->
 ((0:Int)<=1/\(1:Int)<(r4.len:Nat)/\Option.isSome r4.a=true) /\
 ∃x4:NumV,View.has V5 (Option.map (λq=>Addr.add q (Int.toNat 1*5)) r4.a) (x4.val).cells.toList/\Option.isSome (Option.map (λq=>Addr.add q (Int.toNat 1*5)) r4.a)=true /\
 CallV Try.prog 34 #[x4.val] V5 λv V9=>∃r11:ByteArray,v = .string r11 /\
 ((ByteArray.toList r11==ByteArray.toList (ByteArray.mk #[45,50,43,50,105]))=true ->
 ∃c7:Bool,EqAt Try.prog 62 (r6.val) ((GateV.mk 1 2).val) c7 /\
 R (.bool c7) V9) /\
 ((ByteArray.toList r11==ByteArray.toList (ByteArray.mk #[45,50,43,50,105]))=false ->
 R (.bool false) V9)) /\
 (false=false ->
 (false=true ->
 ∃c8:Bool,EqAt Try.prog 62 (r6.val) ((GateV.mk 1 2).val) c8 /\
 R (.bool c8) V5) /\
 (false=false ->
 R (.bool false) V5))))) /\
 (((r2:Int)==0)=false ->
 (false=true ->
 (((r7:Int)==0)=true ->
 ((((r4.len:Int):Int)==4)=true ->
 ((0:Int)<=1/\(1:Int)<(r4.len:Nat)/\Option.isSome r4.a=true) /\
 ∃x5:NumV,View.has V5 (Option.map (λq=>Addr.add q (Int.toNat 1*5)) r4.a) (x5.val).cells.toList/\Option.isSome (Option.map (λq=>Addr.add q (Int.toNat 1*5)) r4.a)=true /\
 CallV Try.prog 34 #[x5.val] V5 λv V10=>∃r12:ByteArray,v = .string r12 /\
 ((ByteArray.toList r12==ByteArray.toList (ByteArray.mk #[45,50,43,50,105]))=true ->
 ∃c9:Bool,EqAt Try.prog 62 (r6.val) ((GateV.mk 1 2).val) c9 /\
 R (.bool c9) V10) /\
 ((ByteArray.toList r12==ByteArray.toList (ByteArray.mk #[45,50,43,50,105]))=false ->
 R (.bool false) V10)) /\
 ((((r4.len:Int):Int)==4)=false ->
 (false=true ->
 ∃c10:Bool,EqAt Try.prog 62 (r6.val) ((GateV.mk 1 2).val) c10 /\
 R (.bool c10) V5) /\
 (false=false ->
 R (.bool false) V5))) /\
 (((r7:Int)==0)=false ->
 (false=true ->
 ((0:Int)<=1/\(1:Int)<(r4.len:Nat)/\Option.isSome r4.a=true) /\
 ∃x6:NumV,View.has V5 (Option.map (λq=>Addr.add q (Int.toNat 1*5)) r4.a) (x6.val).cells.toList/\Option.isSome (Option.map (λq=>Addr.add q (Int.toNat 1*5)) r4.a)=true /\
 CallV Try.prog 34 #[x6.val] V5 λv V11=>∃r13:ByteArray,v = .string r13 /\
 ((ByteArray.toList r13==ByteArray.toList (ByteArray.mk #[45,50,43,50,105]))=true ->
 ∃c11:Bool,EqAt Try.prog 62 (r6.val) ((GateV.mk 1 2).val) c11 /\
 R (.bool c11) V11) /\
 ((ByteArray.toList r13==ByteArray.toList (ByteArray.mk #[45,50,43,50,105]))=false ->
 R (.bool false) V11)) /\
 (false=false ->
 (false=true ->
 ∃c12:Bool,EqAt Try.prog 62 (r6.val) ((GateV.mk 1 2).val) c12 /\
 R (.bool c12) V5) /\
 (false=false ->
 R (.bool false) V5)))) /\
 (false=false ->
 (false=true ->
 ((((r4.len:Int):Int)==4)=true ->
 ((0:Int)<=1/\(1:Int)<(r4.len:Nat)/\Option.isSome r4.a=true) /\
 ∃x7:NumV,View.has V5 (Option.map (λq=>Addr.add q (Int.toNat 1*5)) r4.a) (x7.val).cells.toList/\Option.isSome (Option.map (λq=>Addr.add q (Int.toNat 1*5)) r4.a)=true /\
 CallV Try.prog 34 #[x7.val] V5 λv V12=>∃r14:ByteArray,v = .string r14 /\
 ((ByteArray.toList r14==ByteArray.toList (ByteArray.mk #[45,50,43,50,105]))=true ->
 ∃c13:Bool,EqAt Try.prog 62 (r6.val) ((GateV.mk 1 2).val) c13 /\
 R (.bool c13) V12) /\
 ((ByteArray.toList r14==ByteArray.toList (ByteArray.mk #[45,50,43,50,105]))=false ->
 R (.bool false) V12)) /\
 ((((r4.len:Int):Int)==4)=false ->
 (false=true ->
 ∃c14:Bool,EqAt Try.prog 62 (r6.val) ((GateV.mk 1 2).val) c14 /\
 R (.bool c14) V5) /\
 (false=false ->
 R (.bool false) V5))) /\
 (false=false ->
 (false=true ->
 ((0:Int)<=1/\(1:Int)<(r4.len:Nat)/\Option.isSome r4.a=true) /\
 ∃x8:NumV,View.has V5 (Option.map (λq=>Addr.add q (Int.toNat 1*5)) r4.a) (x8.val).cells.toList/\Option.isSome (Option.map (λq=>Addr.add q (Int.toNat 1*5)) r4.a)=true /\
 CallV Try.prog 34 #[x8.val] V5 λv V13=>∃r15:ByteArray,v = .string r15 /\
 ((ByteArray.toList r15==ByteArray.toList (ByteArray.mk #[45,50,43,50,105]))=true ->
 ∃c15:Bool,EqAt Try.prog 62 (r6.val) ((GateV.mk 1 2).val) c15 /\
 R (.bool c15) V13) /\
 ((ByteArray.toList r15==ByteArray.toList (ByteArray.mk #[45,50,43,50,105]))=false ->
 R (.bool false) V13)) /\
 (false=false ->
 (false=true ->
 ∃c16:Bool,EqAt Try.prog 62 (r6.val) ((GateV.mk 1 2).val) c16 /\
 R (.bool c16) V5) /\
 (false=false ->
 R (.bool false) V5)))))) :
 CallV Try.prog 15 #[] V R :=
 calls_of_vc (Shp:=Shp) hmixed Try.func15 (c:=Try.f15.body.getD .skip) (args:=[]) (by kernel_rfl)
 (.seq (.reg [A 0 2]) (.seq (.reg [A 8 10,A 7 2,A 9 0,A 10 0,A 1 2,A 2 2]) (.seq (.reg [A 12 0,A 13 0,A 14 0,A 15 0,A 16 11,A 17 10,A 18 2,A 19 10,A 11 2,A 20 0,A 21 0,A 3 2,A 4 2]) (.seq (.reg [A 23 0,A 24 10,A 22 2,A 25 0,A 26 0,A 5 3,A 5 6,A 6 2]) (.seq (.reg [A 27 2,A 28 0,⟨29,2,true⟩,A 30 2,A 31 0,A 32 2,⟨33,2,true⟩,A 34 2,A 35 0,A 36 2,⟨37,2,true⟩,A 38 2,A 39 0,A 40 0,A 41 2,⟨42,2,true⟩,A 43 2,A 44 7,A 45 5,A 46 10,A 47 0,A 48 2,⟨49,2,true⟩,A 5 4,A 51 0,A 52 12,A 53 2,A 0 2]) .leaf)))))
 (Eq.mpr (by kernel_rfl) h)
