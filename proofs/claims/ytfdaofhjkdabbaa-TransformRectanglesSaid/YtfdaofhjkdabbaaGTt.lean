/- Part of the proof; it has the parts GTt. -/
import Derived.Test.YtfdaofhjkdabbaaGTgN
set_option maxRecDepth 100000
set_option maxHeartbeats 4000000
namespace Go.Proofs.Ytfdaofhjkdabbaa
open Go Go.Vc Go.Proofs
open Go.IntKind (i8 i16 i32 i64 u8 u16 u32 u64)
structure L__transform_Grid_num_Num___Turned_0 where(t18:Int)(o0:View)(o2:GridV)(o15:List Value)
structure C__transform_Grid_num_Num___Turned_0 where(t5l t5c:Nat)(t17:Int)
structure L__transform_Grid_num_Num___Turned_1 where(t24:Int)(o0:View)(o15:List Value)
structure C__transform_Grid_num_Num___Turned_1 where(t5l t5c:Nat)(t6 t17 t18:Int)(o2_0:Sl)
def m_transform_Grid_num_Num___Turned_f0(p0:GridV)(c:C__transform_Grid_num_Num___Turned_0)(w x:L__transform_Grid_num_Num___Turned_0):Prop:=(Q1 (.own 1 0)/\Q1 (.own 2 0)/\Q1 (.osl 15 0 c.t5l c.t5c)/\Q1 (.val (.int .i64 c.t17))/\E2 (.val (.int .i64 w.t18)) (.val (.int .i64 x.t18))/\True)/\(O2 ⟨0,.reg w.o0⟩ ⟨0,.reg x.o0⟩/\O2 ⟨47,.fixed [.val p0.rows.v]⟩ ⟨47,.fixed [.val p0.rows.v]⟩/\O2 ⟨47,.fixed [.val w.o2.rows.v]⟩ ⟨47,.fixed [.val x.o2.rows.v]⟩/\O2 ⟨23,.dyn w.o15⟩ ⟨23,.dyn x.o15⟩/\True)
def m_transform_Grid_num_Num___Turned_f1(p0:GridV)(c:C__transform_Grid_num_Num___Turned_1)(w x:L__transform_Grid_num_Num___Turned_1):Prop:=(Q1 (.own 1 0)/\Q1 (.own 2 0)/\Q1 (.osl 15 0 c.t5l c.t5c)/\Q1 (.val (.int .i64 c.t6))/\Q1 (.val (.int .i64 c.t17))/\Q1 (.val (.int .i64 c.t18))/\Q1 (.val p0.rows.v)/\Q1 (.val (.int .i64 (p0.rows.len:Int)))/\E2 (.val (.int .i64 w.t24)) (.val (.int .i64 x.t24))/\True)/\(O2 ⟨0,.reg w.o0⟩ ⟨0,.reg x.o0⟩/\O2 ⟨47,.fixed [.val p0.rows.v]⟩ ⟨47,.fixed [.val p0.rows.v]⟩/\O2 ⟨47,.fixed [.val c.o2_0.v]⟩ ⟨47,.fixed [.val c.o2_0.v]⟩/\O2 ⟨23,.dyn w.o15⟩ ⟨23,.dyn x.o15⟩/\True)
def m_transform_Grid_num_Num___Turned_sk(p0:GridV)(V:View)(R:Value->View->Prop)(I0:C__transform_Grid_num_Num___Turned_0->L__transform_Grid_num_Num___Turned_0->View->Prop)(I1:C__transform_Grid_num_Num___Turned_1->L__transform_Grid_num_Num___Turned_1->View->Prop)(E0:C__transform_Grid_num_Num___Turned_0->L__transform_Grid_num_Num___Turned_0->View->Prop)(B0:C__transform_Grid_num_Num___Turned_0->L__transform_Grid_num_Num___Turned_0->View->L__transform_Grid_num_Num___Turned_0->View->Prop)(E1:C__transform_Grid_num_Num___Turned_1->L__transform_Grid_num_Num___Turned_1->View->Prop)(B1:C__transform_Grid_num_Num___Turned_1->L__transform_Grid_num_Num___Turned_1->View->L__transform_Grid_num_Num___Turned_1->View->Prop):Prop :=
 CallV Try.prog 23 #[p0.val] V λv V1=>∃(r1:Int) (r2:Int),v = .tuple #[.int .i64 r1,.int .i64 r2] /\
 ((0:Int)<=r2/\(r2:Int)<=r2/\(24:Int)*r2<=281474976710656/\(r2:Int)<=9223372036854775807) /\
 E0 (C__transform_Grid_num_Num___Turned_0.mk (Int.toNat r2) (Int.toNat r2) ((Int.toNat r2:Nat):Int)) (L__transform_Grid_num_Num___Turned_0.mk 0 (λ_=>none:View) (GridV.mk (Sl.mk none 0 0)) ((List.replicate (Int.toNat r2) [Value.slice none 0 0]).flatten)) V1 /\
 (∀(x2:L__transform_Grid_num_Num___Turned_0) (V2:View),View.le V1 V2->I0 (C__transform_Grid_num_Num___Turned_0.mk (Int.toNat r2) (Int.toNat r2) ((Int.toNat r2:Nat):Int)) x2 V2 ->
 ((decide ((x2.t18:Int)<((Int.toNat r2:Nat):Int)))=true ->
 E1 (C__transform_Grid_num_Num___Turned_1.mk (Int.toNat r2) (Int.toNat r2) x2.t18 ((Int.toNat r2:Nat):Int) x2.t18 x2.o2.rows) (L__transform_Grid_num_Num___Turned_1.mk 0 x2.o0 x2.o15) V2 /\
 (∀(x4:L__transform_Grid_num_Num___Turned_1) (V3:View),View.le V2 V3->I1 (C__transform_Grid_num_Num___Turned_1.mk (Int.toNat r2) (Int.toNat r2) x2.t18 ((Int.toNat r2:Nat):Int) x2.t18 x2.o2.rows) x4 V3 ->
 ((decide ((x4.t24:Int)<(p0.rows.len:Int)))=true ->
 ((0:Int)<=x4.t24/\(x4.t24:Int)<(p0.rows.len:Nat)/\Option.isSome p0.rows.a=true) /\
 ∃x5:Sl,load2 x4.o0 V3 (Option.map (λq=>Addr.add q (Int.toNat x4.t24*1)) p0.rows.a) (x5.v) /\
 ((0:Int)<=x2.t18/\(x2.t18:Int)<(Int.toNat r2:Nat)) /\
 ∃x6:Sl,x4.o15[0+Int.toNat x2.t18*1]?=some (x6.v) /\
 ((0:Int)<=x2.t18/\(x2.t18:Int)<(x5.len:Nat)/\Option.isSome x5.a=true) /\
 ∃x7:NumV,has2 x4.o0 V3 (Option.map (λq=>Addr.add q (Int.toNat x2.t18*5)) x5.a) (x7.val).cells.toList/\Option.isSome (Option.map (λq=>Addr.add q (Int.toNat x2.t18*5)) x5.a)=true /\
 ∀(b1:Nat) (V4:View),View.le V3 V4->View.Fin V4->V4 b1=some #[.bool x7.re.neg,x7.re.mag.v,.bool x7.im.neg,x7.im.mag.v,x7.under.v] ->
 ∃(l1:List Value) (l2:List Value),((x6.len:Nat)<=x6.cap/\(x6.a=none->(x6.cap:Nat)=0))/\has2 x4.o0 V4 x6.a l1/\List.length l1=x6.len*5/\has2 x4.o0 V4 (some (Addr.mk b1 0 none)) l2/\List.length l2=1*5/\(∀v∈l2,Value.oneCell' v=true)/\x6.len+1<=maxLen/\(x6.len+1)*88<=140737488355328/\((1:Nat)≠0->x6.len+1<=x6.cap->∃(b2 c2:Nat) (l3:List Value),x6.a=some (Addr.mk b2 c2 none)/\x4.o0 b2=some (List.toArray l3)/\c2+(x6.len+1)*5<=List.length l3) /\
 ∀(a1:Option Addr) (c1:Nat) (m1:View),AppR x4.o0 V4 x6.a x6.len x6.cap 1 5 l1 l2 a1 c1 m1 ->
 ((0:Int)<=x2.t18/\(x2.t18:Int)<(Int.toNat r2:Nat)) /\
 0+Int.toNat x2.t18*1+1<=List.length x4.o15 /\
 B1 (C__transform_Grid_num_Num___Turned_1.mk (Int.toNat r2) (Int.toNat r2) x2.t18 ((Int.toNat r2:Nat):Int) x2.t18 x2.o2.rows) (L__transform_Grid_num_Num___Turned_1.mk (i64.wrap (x4.t24+1)) m1 (List.set x4.o15 (0+Int.toNat x2.t18*1) (.slice a1 (x6.len+1) c1))) V4 x4 V3) /\
 ((decide ((x4.t24:Int)<(p0.rows.len:Int)))=false ->
 B0 (C__transform_Grid_num_Num___Turned_0.mk (Int.toNat r2) (Int.toNat r2) ((Int.toNat r2:Nat):Int)) (L__transform_Grid_num_Num___Turned_0.mk (i64.wrap (x2.t18+1)) x4.o0 x2.o2 x4.o15) V3 x2 V2))) /\
 ((decide ((x2.t18:Int)<((Int.toNat r2:Nat):Int)))=false ->
 ∀(b3:Nat),x2.o0 b3=none->V2 b3=none ->
 ((0:Nat)≠1) /\
 ∀(V5:View),View.le V2 V5->(∀(b:Nat) (cs:Array Value),(View.upd x2.o0 b3 (List.toArray x2.o15)) b=some cs->V5 b=some cs) ->
 R ((GridV.mk (Sl.mk (some (Addr.mk b3 0 none)) (Int.toNat r2) (Int.toNat r2))).val) V5))
theorem m_transform_Grid_num_Num___Turned_v0(p0:GridV)(V:View)(R:Value->View->Prop)(I0:C__transform_Grid_num_Num___Turned_0->L__transform_Grid_num_Num___Turned_0->View->Prop)(J0:C__transform_Grid_num_Num___Turned_0->L__transform_Grid_num_Num___Turned_0->View->Nat)(I1:C__transform_Grid_num_Num___Turned_1->L__transform_Grid_num_Num___Turned_1->View->Prop)(J1:C__transform_Grid_num_Num___Turned_1->L__transform_Grid_num_Num___Turned_1->View->Nat){X:Prop}(e:m_transform_Grid_num_Num___Turned_sk p0 V R I0 I1 I0 (λc w V x U=>I0 c w V/\J0 c w V<J0 c x U) I1 (λc w V x U=>I1 c w V/\J1 c w V<J1 c x U)=X)(h:X) :
 CallV Try.prog 22 #[p0.val] V R :=
 calls_of_vc (Shp:=Shp) hmixed Try.func22 (c:=Try.f22.body.getD .skip) (args:=[p0.val]) (by kernel_rfl)
 (.newR 0 0 (.seq (.reg [A 1 3,A 2 3]) (.seq (.reg [A 1 4,A 11 10,A 9 2,A 12 0,A 13 0,A 3 2,A 4 2]) (.seq (.reg [A 14 2,A 15 3,A 5 2]) (.seq (.seq (.reg [A 16 2,A 17 7,A 18 2]) (.block (.loop C__transform_Grid_num_Num___Turned_0 L__transform_Grid_num_Num___Turned_0 (λσ=>C__transform_Grid_num_Num___Turned_0.mk (gLen (gTm σ 5)) (gCap (gTm σ 5)) (gInt (gTm σ 17))) (λc x=>{ tm:=spT 45 0 [(1,.own 1 0),(2,.own 2 0),(5,.osl 15 0 c.t5l c.t5c),(17,.val (.int .i64 c.t17)),(18,.val (.int .i64 x.t18))],own:=spO 45 0 [(0,⟨0,.reg x.o0⟩),(1,⟨47,.fixed [.val p0.rows.v]⟩),(2,⟨47,.fixed [.val x.o2.rows.v]⟩),(15,⟨23,.dyn x.o15⟩)] }) I0 J0 (.seq (.reg [A 19 0]) (.seq (.cond .leaf .leaf) (.seq (.block (.seq (.reg [A 20 2,A 6 2]) (.seq (.reg [A 21 7,A 1 4,A 23 0,A 24 2]) (.block (.loop C__transform_Grid_num_Num___Turned_1 L__transform_Grid_num_Num___Turned_1 (λσ=>C__transform_Grid_num_Num___Turned_1.mk (gLen (gTm σ 5)) (gCap (gTm σ 5)) (gInt (gTm σ 6)) (gInt (gTm σ 17)) (gInt (gTm σ 18)) (Sl.mk (gSlA (gOwn σ 2 0)) (gSlL (gOwn σ 2 0)) (gSlC (gOwn σ 2 0)))) (λc x=>{ tm:=spT 45 0 [(1,.own 1 0),(2,.own 2 0),(5,.osl 15 0 c.t5l c.t5c),(6,.val (.int .i64 c.t6)),(17,.val (.int .i64 c.t17)),(18,.val (.int .i64 c.t18)),(22,.val p0.rows.v),(23,.val (.int .i64 (p0.rows.len:Int))),(24,.val (.int .i64 x.t24))],own:=spO 45 0 [(0,⟨0,.reg x.o0⟩),(1,⟨47,.fixed [.val p0.rows.v]⟩),(2,⟨47,.fixed [.val c.o2_0.v]⟩),(15,⟨23,.dyn x.o15⟩)] }) I1 J1 (.seq (.reg [A 25 0]) (.seq (.cond .leaf .leaf) (.seq (.block (.seq (.reg [A 26 7,A 0 22,A 8 2]) (.draw [(0,A 28 2),(1,A 29 2),(2,A 30 2),(3,A 31 2),(4,A 32 7),(5,A 15 4),(6,A 34 2),(7,A 35 2),(8,A 36 7),(9,A 0 22),(10,A 38 11),(11,A 0 25),(12,A 40 7),(13,A 15 6)] [0,0,0,0,12,28,0,0,192,448,960,2044,4095,8191]))) (.reg [A 41 0,A 24 2]))))))))) (.reg [A 42 0,A 18 2]))))))) (.seq (.giveR 15 0 (.reg [A 43 2,A 44 0,A 2 6])) (.pubR 0 .leaf)))))))
 (Eq.mpr (by kernel_rfl) (show m_transform_Grid_num_Num___Turned_sk p0 V R I0 I1 (λc w V=>∃x,m_transform_Grid_num_Num___Turned_f0 p0 c w x/\I0 c x V) (λc w V y U=>∃x,m_transform_Grid_num_Num___Turned_f0 p0 c w x/\I0 c x V/\J0 c x V<J0 c y U) (λc w V=>∃x,m_transform_Grid_num_Num___Turned_f1 p0 c w x/\I1 c x V) (λc w V y U=>∃x,m_transform_Grid_num_Num___Turned_f1 p0 c w x/\I1 c x V/\J1 c x V<J1 c y U)from by
 have h:=Eq.mpr e h; unfold m_transform_Grid_num_Num___Turned_sk at h ⊢; have Ee0:=λc w V (h:I0 c w V)=>(⟨w,⟨⟨rfl,rfl,rfl,rfl,rfl,trivial⟩,⟨rfl,rfl,rfl,rfl,trivial⟩⟩,h⟩:∃x,m_transform_Grid_num_Num___Turned_f0 p0 c w x/\I0 c x V); have Bb0:=λc w V y U (h:I0 c w V/\J0 c w V<J0 c y U)=>(⟨w,⟨⟨rfl,rfl,rfl,rfl,rfl,trivial⟩,⟨rfl,rfl,rfl,rfl,trivial⟩⟩,h⟩:∃x,m_transform_Grid_num_Num___Turned_f0 p0 c w x/\I0 c x V/\J0 c x V<J0 c y U); have Ee1:=λc w V (h:I1 c w V)=>(⟨w,⟨⟨rfl,rfl,rfl,rfl,rfl,rfl,rfl,rfl,rfl,trivial⟩,⟨rfl,rfl,rfl,rfl,trivial⟩⟩,h⟩:∃x,m_transform_Grid_num_Num___Turned_f1 p0 c w x/\I1 c x V); have Bb1:=λc w V y U (h:I1 c w V/\J1 c w V<J1 c y U)=>(⟨w,⟨⟨rfl,rfl,rfl,rfl,rfl,rfl,rfl,rfl,rfl,trivial⟩,⟨rfl,rfl,rfl,rfl,trivial⟩⟩,h⟩:∃x,m_transform_Grid_num_Num___Turned_f1 p0 c w x/\I1 c x V/\J1 c x V<J1 c y U); exact(CallV.mono h (λ_ _ _ ⟨r1,r2,h33,h32⟩=>⟨r1,r2,h33,⟨h32.1,⟨(Ee0 _ _ _ h32.2.1),λx2 V2 h30 h31=>⟨λh29=>⟨(Ee1 _ _ _ ((h32.2.2 x2 V2 h30 h31).1 h29).1),λx4 V3 h23 h24=>⟨λh22=>⟨((((h32.2.2 x2 V2 h30 h31).1 h29).2 x4 V3 h23 h24).1 h22).1,(match ((((h32.2.2 x2 V2 h30 h31).1 h29).2 x4 V3 h23 h24).1 h22).2 with|⟨x5,h21,h20⟩=>⟨x5,h21,⟨h20.1,(match h20.2 with|⟨x6,h19,h18⟩=>⟨x6,h19,⟨h18.1,(match h18.2 with|⟨x7,h16,h17,h15⟩=>⟨x7,h16,h17,(λb1 V4 h12 h13 h14=>(match (h15 b1 V4 h12 h13 h14)with|⟨l1,l2,h3,h4,h5,h6,h7,h8,h9,h10,h11,h2⟩=>⟨l1,l2,h3,h4,h5,h6,h7,h8,h9,h10,h11,(λa1 c1 m1 h1=>⟨(h2 a1 c1 m1 h1).1,⟨(h2 a1 c1 m1 h1).2.1,(Bb1 _ _ _ _ _ (h2 a1 c1 m1 h1).2.2)⟩⟩)⟩))⟩)⟩⟩)⟩⟩)⟩,λh22=>(Bb0 _ _ _ _ _ ((((h32.2.2 x2 V2 h30 h31).1 h29).2 x4 V3 h23 h24).2 h22))⟩⟩,λh29=>(λb3 h27 h28=>⟨(((h32.2.2 x2 V2 h30 h31).2 h29) b3 h27 h28).1,(λV5 h25 h26=>((((h32.2.2 x2 V2 h30 h31).2 h29) b3 h27 h28).2 V5 h25 h26))⟩)⟩⟩⟩⟩))))
theorem m_transform_Grid_num_Num___Turned_vc:type_of% (λp0 V R I0 J0 I1 J1=>m_transform_Grid_num_Num___Turned_v0 p0 V R I0 J0 I1 J1 (m_transform_Grid_num_Num___Turned_sk.eq_1 ..)):=λp0 V R I0 J0 I1 J1=>m_transform_Grid_num_Num___Turned_v0 p0 V R I0 J0 I1 J1 (m_transform_Grid_num_Num___Turned_sk.eq_1 ..)
structure L_transform_along_num_Num__0 where(t11:Int)(o4:GridV)(o5_0l o5_0c:Nat)(o21:List Value)
def transform_along_num_Num__f0(p0:GridV)(p1:Fn2)(_c:Unit)(w x:L_transform_along_num_Num__0):Prop:=(Q1 (.val (.func (.func 83) #[] #[.pointer p1.p0,.pointer p1.p1]))/\Q1 (.own 4 0)/\Q1 (.own 5 0)/\Q1 (.val p0.rows.v)/\Q1 (.val (.int .i64 (p0.rows.len:Int)))/\E2 (.val (.int .i64 w.t11)) (.val (.int .i64 x.t11))/\True)/\(O2 ⟨47,.fixed [.val w.o4.rows.v]⟩ ⟨47,.fixed [.val x.o4.rows.v]⟩/\O2 ⟨47,.fixed [.lst 21 w.o5_0l w.o5_0c]⟩ ⟨47,.fixed [.lst 21 x.o5_0l x.o5_0c]⟩/\O2 ⟨23,.list w.o21⟩ ⟨23,.list x.o21⟩/\True)
def transform_along_num_Num__sk(p0:GridV)(p1:Fn2)(V:View)(R:Value->View->Prop)(I0:Unit->L_transform_along_num_Num__0->View->Prop)(E0:Unit->L_transform_along_num_Num__0->View->Prop)(B0:Unit->L_transform_along_num_Num__0->View->L_transform_along_num_Num__0->View->Prop):Prop :=
 E0 () (L_transform_along_num_Num__0.mk 0 (GridV.mk (Sl.mk none 0 0)) 0 0 ([]:List Value)) V /\
 (∀(x2:L_transform_along_num_Num__0) (V1:View),View.le V V1->I0 () x2 V1 ->
 ((decide ((x2.t11:Int)<(p0.rows.len:Int)))=true ->
 ((0:Int)<=x2.t11/\(x2.t11:Int)<(p0.rows.len:Nat)/\Option.isSome p0.rows.a=true) /\
 ∃x3:Sl,View.load V1 (Option.map (λq=>Addr.add q (Int.toNat x2.t11*1)) p0.rows.a)=some (x3.v) /\
 CallV Try.prog 83 #[x3.v,.pointer p1.p0,.pointer p1.p1] V1 λv V2=>∃r1:Sl,v=r1.v /\
 ∀(b1:Nat) (V3:View),View.le V2 V3->View.Fin V3->V3 b1=some #[r1.v] ->
 ∃(l1:List Value) (l2:List Value),LstOk 1 x2.o5_0l x2.o5_0c x2.o21 l1/\View.has V3 (some (Addr.mk b1 0 none)) l2/\List.length l2=1*1/\(∀v∈l2,Value.oneCell' v=true)/\x2.o5_0l+1<=maxLen/\(x2.o5_0l+1)*24<=140737488355328 /\
 ∀(c1:Nat) (l3:List Value),LstOk 1 (x2.o5_0l+1) c1 l3 (l1++l2) ->
 B0 () (L_transform_along_num_Num__0.mk (i64.wrap (x2.t11+1)) x2.o4 (x2.o5_0l+1) c1 l3) V3 x2 V1) /\
 ((decide ((x2.t11:Int)<(p0.rows.len:Int)))=false ->
 ∀(b2:Nat) (V4:View),View.le V1 V4->(x2.o21≠[]->V4 b2=some (List.toArray x2.o21)) ->
 R ((GridV.mk (Sl.mk (lstA b2 x2.o5_0c) x2.o5_0l x2.o5_0c)).val) V4))
theorem transform_along_num_Num__v0(p0:GridV)(p1:Fn2)(V:View)(R:Value->View->Prop)(I0:Unit->L_transform_along_num_Num__0->View->Prop)(J0:Unit->L_transform_along_num_Num__0->View->Nat){X:Prop}(e:transform_along_num_Num__sk p0 p1 V R I0 I0 (λc w V x U=>I0 c w V/\J0 c w V<J0 c x U)=X)(h:X) :
 CallV Try.prog 84 #[p0.val,p1.val 83] V R :=
 calls_of_vc (Shp:=Shp) hmixed Try.func84 (c:=Try.f84.body.getD .skip) (args:=[p0.val,p1.val 83]) (by kernel_rfl)
 (.seq (.reg [A 2 3,A 4 3]) (.seq (.reg [A 5 3]) (.seq (.seq (.adoptC 5 0 21 23 (.reg [A 8 7,A 2 4,A 10 0,A 11 2])) (.block (.loop Unit L_transform_along_num_Num__0 (λ_=>()) (λc x=>{ tm:=spT 25 0 [(1,.val (.func (.func 83) #[] #[.pointer p1.p0,.pointer p1.p1])),(4,.own 4 0),(5,.own 5 0),(9,.val p0.rows.v),(10,.val (.int .i64 (p0.rows.len:Int))),(11,.val (.int .i64 x.t11))],own:=spO 25 0 [(4,⟨47,.fixed [.val x.o4.rows.v]⟩),(5,⟨47,.fixed [.lst 21 x.o5_0l x.o5_0c]⟩),(21,⟨23,.list x.o21⟩)] }) I0 J0 (.seq (.reg [A 12 0]) (.seq (.cond .leaf .leaf) (.seq (.block (.seq (.reg [A 13 7,A 14 5,A 7 2]) (.draw [(0,A 15 7),(1,A 5 4),(2,A 17 2),(3,A 18 2),(4,A 19 10),(5,A 20 11),(6,A 21 13),(7,A 22 7),(8,A 5 6)] [0,1,0,0,12,28,63,127,255]))) (.reg [A 23 0,A 11 2]))))))) (.seq (.pub 21 (.reg [A 5 4,A 4 6])) .leaf))))
 (Eq.mpr (by kernel_rfl) (show transform_along_num_Num__sk p0 p1 V R I0 (λc w V=>∃x,transform_along_num_Num__f0 p0 p1 c w x/\I0 c x V) (λc w V y U=>∃x,transform_along_num_Num__f0 p0 p1 c w x/\I0 c x V/\J0 c x V<J0 c y U)from by
 have h:=Eq.mpr e h; unfold transform_along_num_Num__sk at h ⊢; have Ee0:=λc w V (h:I0 c w V)=>(⟨w,⟨⟨rfl,rfl,rfl,rfl,rfl,rfl,trivial⟩,⟨rfl,rfl,rfl,trivial⟩⟩,h⟩:∃x,transform_along_num_Num__f0 p0 p1 c w x/\I0 c x V); have Bb0:=λc w V y U (h:I0 c w V/\J0 c w V<J0 c y U)=>(⟨w,⟨⟨rfl,rfl,rfl,rfl,rfl,rfl,trivial⟩,⟨rfl,rfl,rfl,trivial⟩⟩,h⟩:∃x,transform_along_num_Num__f0 p0 p1 c w x/\I0 c x V/\J0 c x V<J0 c y U); exact⟨(Ee0 _ _ _ h.1),λx2 V1 h19 h20=>⟨λh18=>⟨((h.2 x2 V1 h19 h20).1 h18).1,(match ((h.2 x2 V1 h19 h20).1 h18).2 with|⟨x3,h15,h14⟩=>⟨x3,h15,(CallV.mono h14 (λ_ _ _ ⟨r1,h13,h12⟩=>⟨r1,h13,(λb1 V3 h9 h10 h11=>(match (h12 b1 V3 h9 h10 h11)with|⟨l1,l2,h3,h4,h5,h6,h7,h8,h2⟩=>⟨l1,l2,h3,h4,h5,h6,h7,h8,(λc1 l3 h1=>(Bb0 _ _ _ _ _ (h2 c1 l3 h1)))⟩))⟩))⟩)⟩,λh18=>(λb2 V4 h16 h17=>(((h.2 x2 V1 h19 h20).2 h18) b2 V4 h16 h17))⟩⟩))
theorem transform_along_num_Num__vc:type_of% (λp0 p1 V R I0 J0=>transform_along_num_Num__v0 p0 p1 V R I0 J0 (transform_along_num_Num__sk.eq_1 ..)):=λp0 p1 V R I0 J0=>transform_along_num_Num__v0 p0 p1 V R I0 J0 (transform_along_num_Num__sk.eq_1 ..)
theorem transform_both_num_Num__1_vc(p0:Sl)(p1:Option Addr)(V:View)(R:Value->View->Prop)
 (h :
 ∀(b1:Nat) (V1:View),View.le V V1->V1 b1=some (List.toArray ([p0.v])) ->
 R ((Fn2.mk p1 (some (Addr.mk b1 0 none))).val 83) V1) :
 CallV Try.prog 82 #[p0.v,.pointer p1] V R :=
 calls_of_vc (Shp:=Shp) hmixed Try.func82 (c:=Try.f82.body.getD .skip) (args:=[p0.v,.pointer p1]) (by kernel_rfl)
 (.seq (.reg [A 2 3,A 3 2]) (.seq (.pub 2 (.reg [A 4 0,A 3 2])) .leaf))
 (Eq.mpr (by kernel_rfl) h)
def Shp_28_48:Shapes:=λt=>if t=28 then⟨Fn0,λx=>x.val 48⟩else Shp t
theorem transform_both_num_Num__1_1__transform_Fast_num_Num__vc(p0:Sl)(p1:Option Addr)(p2:Option Addr)(V:View)(R:Value->View->Prop)
 (h :
 ∃x1:Fn0,View.load V p1=some (x1.val 48) /\
 ∃x2:Sl,View.load V p2=some (x2.v) /\
 CallV Try.prog 48 #[p0.v,x2.v] V λv V1=>∃(r1:Sl) (r2:Int),v = .tuple #[r1.v,.int .i64 r2] /\
 R (r1.v) V1) :
 CallV Try.prog 83 #[p0.v,.pointer p1,.pointer p2] V R :=
 calls_of_vc (Shp:=Shp_28_48) hmixed Try.func83 (c:=Try.f83.body.getD .skip) (args:=[p0.v,.pointer p1,.pointer p2]) (by kernel_rfl)
 (.seq (.reg [A 4 2]) (.seq (.reg [A 8 5,A 9 2,A 10 5,A 11 10,A 7 2,A 12 0,A 13 0,A 5 2,A 6 2]) (.seq (.reg [A 14 2,A 4 2]) .leaf)))
 (Eq.mpr (by kernel_rfl) h)
def Shp_28_55:Shapes:=λt=>if t=28 then⟨Fn0,λx=>x.val 55⟩else Shp t
theorem transform_both_num_Num__1_1__transform_FastBack_num_Num__vc(p0:Sl)(p1:Option Addr)(p2:Option Addr)(V:View)(R:Value->View->Prop)
 (h :
 ∃x1:Fn0,View.load V p1=some (x1.val 55) /\
 ∃x2:Sl,View.load V p2=some (x2.v) /\
 CallV Try.prog 55 #[p0.v,x2.v] V λv V1=>∃(r1:Sl) (r2:Int),v = .tuple #[r1.v,.int .i64 r2] /\
 R (r1.v) V1) :
 CallV Try.prog 83 #[p0.v,.pointer p1,.pointer p2] V R :=
 calls_of_vc (Shp:=Shp_28_55) hmixed Try.func83 (c:=Try.f83.body.getD .skip) (args:=[p0.v,.pointer p1,.pointer p2]) (by kernel_rfl)
 (.seq (.reg [A 4 2]) (.seq (.reg [A 8 5,A 9 2,A 10 5,A 11 10,A 7 2,A 12 0,A 13 0,A 5 2,A 6 2]) (.seq (.reg [A 14 2,A 4 2]) .leaf)))
 (Eq.mpr (by kernel_rfl) h)
theorem transform_both_num_Num___transform_Fast_num_Num__vc(p0:GridV)(p1:Sl)(p2:Sl)(p3:Fn0)(V:View)(R:Value->View->Prop)
 (h :
 CallV Try.prog 23 #[p0.val] V λv V1=>∃(r1:Int) (r2:Int),v = .tuple #[.int .i64 r1,.int .i64 r2] /\
 CallV Try.prog 52 #[.int .i64 (p1.len:Int)] V1 λv V2=>∃r3:Bool,v = .bool r3 /\
 ((!r3)=true ->
 R (.tuple #[(GridV.mk (Sl.mk none 0 0)).val,.int .i64 4]) V2) /\
 ((!r3)=false ->
 CallV Try.prog 52 #[.int .i64 (p2.len:Int)] V2 λv V3=>∃r4:Bool,v = .bool r4 /\
 ((!r4)=true ->
 R (.tuple #[(GridV.mk (Sl.mk none 0 0)).val,.int .i64 4]) V3) /\
 ((!r4)=false ->
 (((r2:Int) != (p1.len:Int))=true ->
 R (.tuple #[(GridV.mk (Sl.mk none 0 0)).val,.int .i64 4]) V3) /\
 (((r2:Int) != (p1.len:Int))=false ->
 (((r1:Int) != (p2.len:Int))=true ->
 R (.tuple #[(GridV.mk (Sl.mk none 0 0)).val,.int .i64 4]) V3) /\
 (((r1:Int) != (p2.len:Int))=false ->
 ∀(b1:Nat) (V4:View),View.le V3 V4->V4 b1=some (List.toArray ([.func (.func 48) #[] #[]])) ->
 CallV Try.prog 82 #[p1.v,.pointer (some (Addr.mk b1 0 none))] V4 λv V5=>∃r5:Fn2,v=r5.val 83 /\
 CallV Try.prog 84 #[p0.val,r5.val 83] V5 λv V6=>∃r6:GridV,v=r6.val /\
 CallV Try.prog 22 #[r6.val] V6 λv V7=>∃r7:GridV,v=r7.val /\
 CallV Try.prog 82 #[p2.v,.pointer (some (Addr.mk b1 0 none))] V7 λv V8=>∃r8:Fn2,v=r8.val 83 /\
 CallV Try.prog 84 #[r7.val,r8.val 83] V8 λv V9=>∃r9:GridV,v=r9.val /\
 CallV Try.prog 22 #[r9.val] V9 λv V10=>∃r10:GridV,v=r10.val /\
 R (.tuple #[r10.val,.int .i64 0]) V10))))) :
 CallV Try.prog 54 #[p0.val,p1.v,p2.v,p3.val 48] V R :=
 calls_of_vc (Shp:=Shp) hmixed Try.func54 (c:=Try.f54.body.getD .skip) (args:=[p0.val,p1.v,p2.v,p3.val 48]) (by kernel_rfl)
 (.seq (.reg [A 4 3,A 7 3,A 8 3,A 9 2]) (.seq (.reg [A 4 4,A 15 10,A 13 2,A 16 0,A 17 0,A 10 2,A 11 2]) (.seq (.seq (.reg [A 18 2,A 19 0,A 20 10,A 21 20,⟨22,2,true⟩,A 23 2,A 24 0,A 25 10,A 26 20,A 27 20,⟨28,2,true⟩,A 29 2,A 30 2,A 31 0,A 32 0,A 33 20,⟨34,2,true⟩,A 35 2,A 36 2,A 37 0,A 38 0,A 39 20]) (.cond (.seq (.reg [A 40 0,A 8 6,A 9 2]) .leaf) .leaf)) (.seq (.pub 7 (.reg [A 41 0,A 12 2])) (.seq (.draw [(0,A 4 4),(1,A 43 2),(2,A 44 2),(6,A 48 2),(7,A 49 2),(3,A 45 10),(4,A 46 10),(5,A 47 10),(8,A 50 10),(9,A 51 10),(10,A 52 10),(11,A 8 6),(12,A 9 2)] [0,0,0,6,15,31,0,0,255,511,1023,2047,4095]) .leaf)))))
 (Eq.mpr (by kernel_rfl) h)
theorem transform_both_num_Num___transform_FastBack_num_Num__vc(p0:GridV)(p1:Sl)(p2:Sl)(p3:Fn0)(V:View)(R:Value->View->Prop)
 (h :
 CallV Try.prog 23 #[p0.val] V λv V1=>∃(r1:Int) (r2:Int),v = .tuple #[.int .i64 r1,.int .i64 r2] /\
 CallV Try.prog 52 #[.int .i64 (p1.len:Int)] V1 λv V2=>∃r3:Bool,v = .bool r3 /\
 ((!r3)=true ->
 R (.tuple #[(GridV.mk (Sl.mk none 0 0)).val,.int .i64 4]) V2) /\
 ((!r3)=false ->
 CallV Try.prog 52 #[.int .i64 (p2.len:Int)] V2 λv V3=>∃r4:Bool,v = .bool r4 /\
 ((!r4)=true ->
 R (.tuple #[(GridV.mk (Sl.mk none 0 0)).val,.int .i64 4]) V3) /\
 ((!r4)=false ->
 (((r2:Int) != (p1.len:Int))=true ->
 R (.tuple #[(GridV.mk (Sl.mk none 0 0)).val,.int .i64 4]) V3) /\
 (((r2:Int) != (p1.len:Int))=false ->
 (((r1:Int) != (p2.len:Int))=true ->
 R (.tuple #[(GridV.mk (Sl.mk none 0 0)).val,.int .i64 4]) V3) /\
 (((r1:Int) != (p2.len:Int))=false ->
 ∀(b1:Nat) (V4:View),View.le V3 V4->V4 b1=some (List.toArray ([.func (.func 55) #[] #[]])) ->
 CallV Try.prog 82 #[p1.v,.pointer (some (Addr.mk b1 0 none))] V4 λv V5=>∃r5:Fn2,v=r5.val 83 /\
 CallV Try.prog 84 #[p0.val,r5.val 83] V5 λv V6=>∃r6:GridV,v=r6.val /\
 CallV Try.prog 22 #[r6.val] V6 λv V7=>∃r7:GridV,v=r7.val /\
 CallV Try.prog 82 #[p2.v,.pointer (some (Addr.mk b1 0 none))] V7 λv V8=>∃r8:Fn2,v=r8.val 83 /\
 CallV Try.prog 84 #[r7.val,r8.val 83] V8 λv V9=>∃r9:GridV,v=r9.val /\
 CallV Try.prog 22 #[r9.val] V9 λv V10=>∃r10:GridV,v=r10.val /\
 R (.tuple #[r10.val,.int .i64 0]) V10))))) :
 CallV Try.prog 54 #[p0.val,p1.v,p2.v,p3.val 55] V R :=
 calls_of_vc (Shp:=Shp) hmixed Try.func54 (c:=Try.f54.body.getD .skip) (args:=[p0.val,p1.v,p2.v,p3.val 55]) (by kernel_rfl)
 (.seq (.reg [A 4 3,A 7 3,A 8 3,A 9 2]) (.seq (.reg [A 4 4,A 15 10,A 13 2,A 16 0,A 17 0,A 10 2,A 11 2]) (.seq (.seq (.reg [A 18 2,A 19 0,A 20 10,A 21 20,⟨22,2,true⟩,A 23 2,A 24 0,A 25 10,A 26 20,A 27 20,⟨28,2,true⟩,A 29 2,A 30 2,A 31 0,A 32 0,A 33 20,⟨34,2,true⟩,A 35 2,A 36 2,A 37 0,A 38 0,A 39 20]) (.cond (.seq (.reg [A 40 0,A 8 6,A 9 2]) .leaf) .leaf)) (.seq (.pub 7 (.reg [A 41 0,A 12 2])) (.seq (.draw [(0,A 4 4),(1,A 43 2),(2,A 44 2),(6,A 48 2),(7,A 49 2),(3,A 45 10),(4,A 46 10),(5,A 47 10),(8,A 50 10),(9,A 51 10),(10,A 52 10),(11,A 8 6),(12,A 9 2)] [0,0,0,6,15,31,0,0,255,511,1023,2047,4095]) .leaf)))))
 (Eq.mpr (by kernel_rfl) h)
theorem transform_ForwardGrid_num_Num__vc(p0:GridV)(p1:Sl)(p2:Sl)(V:View)(R:Value->View->Prop)
 (h :
 CallV Try.prog 54 #[p0.val,p1.v,p2.v,.func (.func 48) #[] #[]] V λv V1=>∃(r1:GridV) (r2:Int),v = .tuple #[r1.val,.int .i64 r2] /\
 R (.tuple #[r1.val,.int .i64 r2]) V1) :
 CallV Try.prog 20 #[p0.val,p1.v,p2.v] V R :=
 calls_of_vc (Shp:=Shp) hmixed Try.func20 (c:=Try.f20.body.getD .skip) (args:=[p0.val,p1.v,p2.v]) (by kernel_rfl)
 (.seq (.reg [A 3 3,A 6 3,A 7 2]) (.seq (.reg [A 3 4,A 9 2,A 10 2,A 11 10,A 12 0,A 13 0,A 6 6,A 7 2]) .leaf))
 (Eq.mpr (by kernel_rfl) h)
theorem transform_BackGrid_num_Num__vc(p0:GridV)(p1:Sl)(p2:Sl)(V:View)(R:Value->View->Prop)
 (h :
 CallV Try.prog 54 #[p0.val,p1.v,p2.v,.func (.func 55) #[] #[]] V λv V1=>∃(r1:GridV) (r2:Int),v = .tuple #[r1.val,.int .i64 r2] /\
 R (.tuple #[r1.val,.int .i64 r2]) V1) :
 CallV Try.prog 21 #[p0.val,p1.v,p2.v] V R :=
 calls_of_vc (Shp:=Shp) hmixed Try.func21 (c:=Try.f21.body.getD .skip) (args:=[p0.val,p1.v,p2.v]) (by kernel_rfl)
 (.seq (.reg [A 3 3,A 6 3,A 7 2]) (.seq (.reg [A 3 4,A 9 2,A 10 2,A 11 10,A 12 0,A 13 0,A 6 6,A 7 2]) .leaf))
 (Eq.mpr (by kernel_rfl) h)
