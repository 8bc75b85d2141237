/- Part of the proof; it has the parts GTgN. -/
import Derived.Test.YtfdaofhjkdabbaaGMtN
set_option maxRecDepth 100000
set_option maxHeartbeats 4000000
namespace Go.Proofs.Ytfdaofhjkdabbaa
open Go Go.Vc Go.Proofs
open Go.IntKind (i8 i16 i32 i64 u8 u16 u32 u64)
structure L_transform_NewGrid_num_Num__0 where(o2:GridV)
structure L_transform_NewGrid_num_Num__1 where(t18:Int)(o2:GridV)(o4_0l o4_0c:Nat)(o45:List Value)
def transform_NewGrid_num_Num__f0(p0:Sl)(_c:Unit)(w x:L_transform_NewGrid_num_Num__0):Prop:=(Q1 (.val p0.v)/\Q1 (.own 2 0)/\True)/\(O2 ⟨47,.fixed [.val w.o2.rows.v]⟩ ⟨47,.fixed [.val x.o2.rows.v]⟩/\True)
def transform_NewGrid_num_Num__f1(p0:Sl)(_c:Unit)(w x:L_transform_NewGrid_num_Num__1):Prop:=(Q1 (.val p0.v)/\Q1 (.own 2 0)/\Q1 (.own 4 0)/\Q1 (.val p0.v)/\Q1 (.val (.int .i64 (p0.len:Int)))/\E2 (.val (.int .i64 w.t18)) (.val (.int .i64 x.t18))/\True)/\(O2 ⟨47,.fixed [.val w.o2.rows.v]⟩ ⟨47,.fixed [.val x.o2.rows.v]⟩/\O2 ⟨47,.fixed [.lst 45 w.o4_0l w.o4_0c]⟩ ⟨47,.fixed [.lst 45 x.o4_0l x.o4_0c]⟩/\O2 ⟨23,.list w.o45⟩ ⟨23,.list x.o45⟩/\True)
def transform_NewGrid_num_Num__sk(p0:Sl)(V:View)(R:Value->View->Prop)(I0:Unit->L_transform_NewGrid_num_Num__0->View->Prop)(I1:Unit->L_transform_NewGrid_num_Num__1->View->Prop)(E0:Unit->L_transform_NewGrid_num_Num__0->View->Prop)(E1:Unit->L_transform_NewGrid_num_Num__1->View->Prop)(B1:Unit->L_transform_NewGrid_num_Num__1->View->L_transform_NewGrid_num_Num__1->View->Prop):Prop :=
 (((decide (((p0.len:Int):Int)<1))=true ->
 R (.tuple #[(GridV.mk (Sl.mk none 0 0)).val,.int .i64 4]) V) /\
 ((decide (((p0.len:Int):Int)<1))=false ->
 ((decide (((p0.len:Int):Int)>64))=true ->
 R (.tuple #[(GridV.mk (Sl.mk none 0 0)).val,.int .i64 4]) V) /\
 ((decide (((p0.len:Int):Int)>64))=false ->
 E0 () (L_transform_NewGrid_num_Num__0.mk (GridV.mk (Sl.mk none 0 0))) V))) /\
 (∀(x1:L_transform_NewGrid_num_Num__0) (V1:View),View.le V V1->I0 () x1 V1 ->
 E1 () (L_transform_NewGrid_num_Num__1.mk 0 x1.o2 0 0 ([]:List Value)) V1 /\
 (∀(x4:L_transform_NewGrid_num_Num__1) (V2:View),View.le V1 V2->I1 () x4 V2 ->
 ((decide ((x4.t18:Int)<(p0.len:Int)))=true ->
 ((0:Int)<=x4.t18/\(x4.t18:Int)<(p0.len:Nat)/\Option.isSome p0.a=true) /\
 ∃x5:Sl,View.load V2 (Option.map (λq=>Addr.add q (Int.toNat x4.t18*1)) p0.a)=some (x5.v) /\
 ((decide (((x5.len:Int):Int)<1))=true ->
 R (.tuple #[(GridV.mk (Sl.mk none 0 0)).val,.int .i64 4]) V2) /\
 ((decide (((x5.len:Int):Int)<1))=false ->
 ((decide (((x5.len:Int):Int)>64))=true ->
 R (.tuple #[(GridV.mk (Sl.mk none 0 0)).val,.int .i64 4]) V2) /\
 ((decide (((x5.len:Int):Int)>64))=false ->
 ((0:Int)<=0/\(0:Int)<(p0.len:Nat)/\Option.isSome p0.a=true) /\
 ∃x6:Sl,View.load V2 (Option.map (λq=>Addr.add q (Int.toNat 0*1)) p0.a)=some (x6.v) /\
 ((((x5.len:Int):Int) != (x6.len:Int))=true ->
 R (.tuple #[(GridV.mk (Sl.mk none 0 0)).val,.int .i64 4]) V2) /\
 ((((x5.len:Int):Int) != (x6.len:Int))=false ->
 CallV Try.prog 81 #[x5.v] V2 λv V3=>∃r1:Sl,v=r1.v /\
 ∀(b1:Nat) (V4:View),View.le V3 V4->View.Fin V4->V4 b1=some #[r1.v] ->
 ∃(l1:List Value) (l2:List Value),LstOk 1 x4.o4_0l x4.o4_0c x4.o45 l1/\View.has V4 (some (Addr.mk b1 0 none)) l2/\List.length l2=1*1/\(∀v∈l2,Value.oneCell' v=true)/\x4.o4_0l+1<=maxLen/\(x4.o4_0l+1)*24<=140737488355328 /\
 ∀(c1:Nat) (l3:List Value),LstOk 1 (x4.o4_0l+1) c1 l3 (l1++l2) ->
 B1 () (L_transform_NewGrid_num_Num__1.mk (i64.wrap (x4.t18+1)) x4.o2 (x4.o4_0l+1) c1 l3) V4 x4 V2)))) /\
 ((decide ((x4.t18:Int)<(p0.len:Int)))=false ->
 ∀(b2:Nat) (V5:View),View.le V2 V5->(x4.o45≠[]->V5 b2=some (List.toArray x4.o45)) ->
 R (.tuple #[(GridV.mk (Sl.mk (lstA b2 x4.o4_0c) x4.o4_0l x4.o4_0c)).val,.int .i64 0]) V5)))
theorem transform_NewGrid_num_Num__v0(p0:Sl)(V:View)(R:Value->View->Prop)(I0:Unit->L_transform_NewGrid_num_Num__0->View->Prop)(I1:Unit->L_transform_NewGrid_num_Num__1->View->Prop)(J1:Unit->L_transform_NewGrid_num_Num__1->View->Nat){X:Prop}(e:transform_NewGrid_num_Num__sk p0 V R I0 I1 I0 I1 (λc w V x U=>I1 c w V/\J1 c w V<J1 c x U)=X)(h:X) :
 CallV Try.prog 51 #[p0.v] V R :=
 calls_of_vc (Shp:=Shp) hmixed Try.func51 (c:=Try.f51.body.getD .skip) (args:=[p0.v]) (by kernel_rfl)
 (.seq (.reg [A 2 3,A 3 2]) (.cut Unit L_transform_NewGrid_num_Num__0 (λ_=>()) (λc x=>{ tm:=spT 49 0 [(0,.val p0.v),(2,.own 2 0)],own:=spO 49 0 [(2,⟨47,.fixed [.val x.o2.rows.v]⟩)] }) I0 (.seq (.reg [A 7 2,A 8 0,A 9 0,⟨10,2,true⟩,A 11 2,A 12 0,A 13 0,A 14 20]) (.cond (.seq (.reg [A 15 0,A 2 6,A 3 2]) .leaf) .leaf)) (.seq (.reg [A 4 3]) (.seq (.seq (.adoptC 4 0 45 23 (.reg [A 16 2,A 17 0,A 18 2])) (.block (.loop Unit L_transform_NewGrid_num_Num__1 (λ_=>()) (λc x=>{ tm:=spT 49 0 [(0,.val p0.v),(2,.own 2 0),(4,.own 4 0),(16,.val p0.v),(17,.val (.int .i64 (p0.len:Int))),(18,.val (.int .i64 x.t18))],own:=spO 49 0 [(2,⟨47,.fixed [.val x.o2.rows.v]⟩),(4,⟨47,.fixed [.lst 45 x.o4_0l x.o4_0c]⟩),(45,⟨23,.list x.o45⟩)] }) I1 J1 (.seq (.reg [A 19 0]) (.seq (.cond .leaf .leaf) (.seq (.block (.seq (.reg [A 20 7,A 21 5,A 6 2]) (.seq (.seq (.reg [A 22 2,A 23 0,A 24 0,⟨25,2,true⟩,A 26 2,A 27 0,A 28 0,A 29 20,⟨30,2,true⟩,A 31 2,A 32 0,A 33 2,A 34 7,A 35 5,A 36 0,A 37 0,A 38 20]) (.cond (.seq (.reg [A 39 0,A 2 6,A 3 2]) .leaf) .leaf)) (.draw [(0,A 40 7),(1,A 4 4),(2,A 42 2),(3,A 43 10),(4,A 44 11),(5,A 45 13),(6,A 46 7),(7,A 4 6)] [0,1,0,4,12,31,63,127])))) (.reg [A 47 0,A 18 2]))))))) (.seq (.pub 45 (.reg [A 4 4,A 2 6,A 3 2])) .leaf)))))
 (Eq.mpr (by kernel_rfl) (show transform_NewGrid_num_Num__sk p0 V R I0 I1 (λc w V=>∃x,transform_NewGrid_num_Num__f0 p0 c w x/\I0 c x V) (λc w V=>∃x,transform_NewGrid_num_Num__f1 p0 c w x/\I1 c x V) (λc w V y U=>∃x,transform_NewGrid_num_Num__f1 p0 c w x/\I1 c x V/\J1 c x V<J1 c y U)from by
 have h:=Eq.mpr e h; unfold transform_NewGrid_num_Num__sk at h ⊢; have Ee0:=λc w V (h:I0 c w V)=>(⟨w,⟨⟨rfl,rfl,trivial⟩,⟨rfl,trivial⟩⟩,h⟩:∃x,transform_NewGrid_num_Num__f0 p0 c w x/\I0 c x V); have Ee1:=λc w V (h:I1 c w V)=>(⟨w,⟨⟨rfl,rfl,rfl,rfl,rfl,rfl,trivial⟩,⟨rfl,rfl,rfl,trivial⟩⟩,h⟩:∃x,transform_NewGrid_num_Num__f1 p0 c w x/\I1 c x V); have Bb1:=λc w V y U (h:I1 c w V/\J1 c w V<J1 c y U)=>(⟨w,⟨⟨rfl,rfl,rfl,rfl,rfl,rfl,trivial⟩,⟨rfl,rfl,rfl,trivial⟩⟩,h⟩:∃x,transform_NewGrid_num_Num__f1 p0 c w x/\I1 c x V/\J1 c x V<J1 c y U); exact⟨⟨λh2=>(h.1.1 h2),λh2=>⟨λh1=>((h.1.2 h2).1 h1),λh1=>(Ee0 _ _ _ ((h.1.2 h2).2 h1))⟩⟩,λx1 V1 h28 h29=>⟨(Ee1 _ _ _ (h.2 x1 V1 h28 h29).1),λx4 V2 h26 h27=>⟨λh25=>⟨(((h.2 x1 V1 h28 h29).2 x4 V2 h26 h27).1 h25).1,(match (((h.2 x1 V1 h28 h29).2 x4 V2 h26 h27).1 h25).2 with|⟨x5,h22,h21⟩=>⟨x5,h22,⟨λh20=>(h21.1 h20),λh20=>⟨λh19=>((h21.2 h20).1 h19),λh19=>⟨((h21.2 h20).2 h19).1,(match ((h21.2 h20).2 h19).2 with|⟨x6,h18,h17⟩=>⟨x6,h18,⟨λh16=>(h17.1 h16),λh16=>(CallV.mono (h17.2 h16) (λ_ _ _ ⟨r1,h15,h14⟩=>⟨r1,h15,(λb1 V4 h11 h12 h13=>(match (h14 b1 V4 h11 h12 h13)with|⟨l1,l2,h5,h6,h7,h8,h9,h10,h4⟩=>⟨l1,l2,h5,h6,h7,h8,h9,h10,(λc1 l3 h3=>(Bb1 _ _ _ _ _ (h4 c1 l3 h3)))⟩))⟩))⟩⟩)⟩⟩⟩⟩)⟩,λh25=>(λb2 V5 h23 h24=>((((h.2 x1 V1 h28 h29).2 x4 V2 h26 h27).2 h25) b2 V5 h23 h24))⟩⟩⟩))
theorem transform_NewGrid_num_Num__vc:type_of% (λp0 V R I0 I1 J1=>transform_NewGrid_num_Num__v0 p0 V R I0 I1 J1 (transform_NewGrid_num_Num__sk.eq_1 ..)):=λp0 V R I0 I1 J1=>transform_NewGrid_num_Num__v0 p0 V R I0 I1 J1 (transform_NewGrid_num_Num__sk.eq_1 ..)
theorem m_transform_Grid_num_Num___Size_vc(p0:GridV)(V:View)(R:Value->View->Prop)
 (h :
 ((((p0.rows.len:Int):Int)==0)=true ->
 R (.tuple #[.int .i64 0,.int .i64 0]) V) /\
 ((((p0.rows.len:Int):Int)==0)=false ->
 ((0:Int)<=0/\(0:Int)<(p0.rows.len:Nat)/\Option.isSome p0.rows.a=true) /\
 ∃x1:Sl,View.load V (Option.map (λq=>Addr.add q (Int.toNat 0*1)) p0.rows.a)=some (x1.v) /\
 R (.tuple #[.int .i64 (p0.rows.len:Int),.int .i64 (x1.len:Int)]) V)) :
 CallV Try.prog 23 #[p0.val] V R :=
 calls_of_vc (Shp:=Shp) hmixed Try.func23 (c:=Try.f23.body.getD .skip) (args:=[p0.val]) (by kernel_rfl)
 (.seq (.reg [A 1 3,A 2 2,A 3 2]) (.seq (.seq (.reg [A 4 7,A 1 4,A 6 0,A 7 0]) (.cond (.seq (.reg [A 2 2,A 3 2]) .leaf) .leaf)) (.seq (.draw [(0,A 8 7),(1,A 1 4),(2,A 10 0),(3,A 11 7),(4,A 1 4),(5,A 13 7),(6,A 14 5),(7,A 15 0),(8,A 2 2),(9,A 3 2)] [0,1,3,0,8,24,56,120,7,511]) .leaf)))
 (Eq.mpr (by kernel_rfl) h)
theorem m_transform_Grid_num_Num___Row_vc(pm:View)(p0:GridV)(p1:Int)(V:View)(R:Value->View->View->Prop)
 (h :
 ((decide ((p1:Int)<0))=true ->
 R (.tuple #[(Sl.mk none 0 0).v,.int .i64 1]) pm V) /\
 ((decide ((p1:Int)<0))=false ->
 ((decide ((p1:Int)>=(p0.rows.len:Int)))=true ->
 R (.tuple #[(Sl.mk none 0 0).v,.int .i64 1]) pm V) /\
 ((decide ((p1:Int)>=(p0.rows.len:Int)))=false ->
 ((0:Int)<=p1/\(p1:Int)<(p0.rows.len:Nat)/\Option.isSome p0.rows.a=true) /\
 ∃x1:Sl,load2 pm V (Option.map (λq=>Addr.add q (Int.toNat p1*1)) p0.rows.a) (x1.v) /\
 CallR Try.prog 81 #[x1.v] pm V λv m1 V1=>∃r1:Sl,v=r1.v /\
 R (.tuple #[r1.v,.int .i64 0]) m1 V1))) :
 CallR Try.prog 56 #[p0.val,.int .i64 p1] pm V R :=
 calls_of_vcR (Shp:=Shp) (r:=0) (m:=pm) hmixed Try.func56 (c:=Try.f56.body.getD .skip) (args:=[p0.val,.int .i64 p1]) (by kernel_rfl) (by kernel_rfl)
 (.seq (.reg [A 2 3,A 4 2,A 5 2]) (.seq (.seq (.reg [A 6 2,A 7 0,⟨8,2,true⟩,A 9 2,A 10 7,A 2 4,A 12 0,A 13 0,A 14 20]) (.cond (.seq (.reg [A 4 2,A 5 2]) .leaf) .leaf)) (.seq (.reg [A 15 7,A 2 4,A 17 2,A 18 7,A 0 22,A 0 24,A 4 2,A 5 2]) .leaf)))
 (Eq.mpr (by kernel_rfl) h)
