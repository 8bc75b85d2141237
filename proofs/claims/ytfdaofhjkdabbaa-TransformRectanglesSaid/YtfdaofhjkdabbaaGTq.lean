/- Part of the proof; it has the parts GTq. -/
import Derived.Test.YtfdaofhjkdabbaaFFor
set_option maxRecDepth 100000
set_option maxHeartbeats 4000000
namespace Go.Proofs.Ytfdaofhjkdabbaa
open Go Go.Vc Go.Proofs
open Go.IntKind (i8 i16 i32 i64 u8 u16 u32 u64)
structure L_waveportlaw07_rows_0 where(t22:Int)(o6:GridV)(o13:List Value)
structure C_waveportlaw07_rows_0 where(t8:Sl)
def waveportlaw07_rows_f0(p1:Int)(p2:Int)(c:C_waveportlaw07_rows_0)(w x:L_waveportlaw07_rows_0):Prop:=(Q1 (.val (.int .i64 p2))/\Q1 (.own 6 0)/\Q1 (.osl 13 0 (Int.toNat p1) (Int.toNat p1))/\Q1 (.val c.t8.v)/\Q1 (.val (.int .i64 ((Int.toNat p1:Nat):Int)))/\E2 (.val (.int .i64 w.t22)) (.val (.int .i64 x.t22))/\True)/\(O2 ⟨47,.fixed [.val w.o6.rows.v]⟩ ⟨47,.fixed [.val x.o6.rows.v]⟩/\O2 ⟨23,.dyn w.o13⟩ ⟨23,.dyn x.o13⟩/\True)
def waveportlaw07_rows_sk(p0:Sl)(p1:Int)(p2:Int)(V:View)(R:Value->View->Prop)(I0:C_waveportlaw07_rows_0->L_waveportlaw07_rows_0->View->Prop)(E0:C_waveportlaw07_rows_0->L_waveportlaw07_rows_0->View->Prop)(B0:C_waveportlaw07_rows_0->L_waveportlaw07_rows_0->View->L_waveportlaw07_rows_0->View->Prop):Prop :=
 ((0:Int)<=p1/\(p1:Int)<=p1/\(24:Int)*p1<=281474976710656/\(p1:Int)<=9223372036854775807) /\
 CallV Try.prog 35 #[p0.v,.int .i64 (i64.wrap (p1*p2))] V λv V1=>∃r1:Sl,v=r1.v /\
 CallV Try.prog 34 #[r1.v] V1 λv V2=>∃r2:Sl,v=r2.v /\
 E0 (C_waveportlaw07_rows_0.mk r2) (L_waveportlaw07_rows_0.mk 0 (GridV.mk (Sl.mk none 0 0)) ((List.replicate (Int.toNat p1) [Value.slice none 0 0]).flatten)) V2 /\
 (∀(x2:L_waveportlaw07_rows_0) (V3:View),View.le V2 V3->I0 (C_waveportlaw07_rows_0.mk r2) x2 V3 ->
 ((decide ((x2.t22:Int)<((Int.toNat p1:Nat):Int)))=true ->
 ((0:Int)<=(i64.wrap (p2*x2.t22))/\((i64.wrap (p2*x2.t22)):Int)<=(i64.wrap ((i64.wrap (p2*x2.t22))+p2))/\((i64.wrap ((i64.wrap (p2*x2.t22))+p2)):Int)<=(r2.cap:Nat)) /\
 ((0:Int)<=x2.t22/\(x2.t22:Int)<(Int.toNat p1:Nat)) /\
 0+Int.toNat x2.t22*1+1<=List.length x2.o13 /\
 B0 (C_waveportlaw07_rows_0.mk r2) (L_waveportlaw07_rows_0.mk (i64.wrap (x2.t22+1)) x2.o6 (List.set x2.o13 (0+Int.toNat x2.t22*1) (.slice (if r2.cap=Int.toNat (i64.wrap (p2*x2.t22))then r2.a else Option.map (λq=>Addr.add q (Int.toNat (i64.wrap (p2*x2.t22))*5)) r2.a) (Int.toNat (i64.wrap ((i64.wrap (p2*x2.t22))+p2))-Int.toNat (i64.wrap (p2*x2.t22))) (r2.cap-Int.toNat (i64.wrap (p2*x2.t22)))))) V3 x2 V3) /\
 ((decide ((x2.t22:Int)<((Int.toNat p1:Nat):Int)))=false ->
 ∀(b1:Nat) (V4:View),View.le V3 V4->V4 b1=some (List.toArray x2.o13) ->
 CallV Try.prog 51 #[(Sl.mk (some (Addr.mk b1 0 none)) (Int.toNat p1) (Int.toNat p1)).v] V4 λv V5=>∃(r3:GridV) (r4:Int),v = .tuple #[r3.val,.int .i64 r4] /\
 R (r3.val) V5))
theorem waveportlaw07_rows_v0(p0:Sl)(p1:Int)(p2:Int)(V:View)(R:Value->View->Prop)(I0:C_waveportlaw07_rows_0->L_waveportlaw07_rows_0->View->Prop)(J0:C_waveportlaw07_rows_0->L_waveportlaw07_rows_0->View->Nat){X:Prop}(e:waveportlaw07_rows_sk p0 p1 p2 V R I0 I0 (λc w V x U=>I0 c w V/\J0 c w V<J0 c x U)=X)(h:X) :
 CallV Try.prog 18 #[p0.v,.int .i64 p1,.int .i64 p2] V R :=
 calls_of_vc (Shp:=Shp) hmixed Try.func18 (c:=Try.f18.body.getD .skip) (args:=[p0.v,.int .i64 p1,.int .i64 p2]) (by kernel_rfl)
 (.seq (.reg [A 6 3]) (.seq (.reg [A 12 2,A 13 3,A 7 2]) (.seq (.reg [A 14 2,A 15 2,A 16 2,A 17 0,A 18 10,A 19 10,A 8 2]) (.seq (.seq (.reg [A 20 2,A 21 7,A 22 2]) (.block (.loop C_waveportlaw07_rows_0 L_waveportlaw07_rows_0 (λσ=>C_waveportlaw07_rows_0.mk (Sl.mk (gSlA (gTm σ 8)) (gSlL (gTm σ 8)) (gSlC (gTm σ 8)))) (λc x=>{ tm:=spT 45 0 [(2,.val (.int .i64 p2)),(6,.own 6 0),(7,.osl 13 0 (Int.toNat p1) (Int.toNat p1)),(8,.val c.t8.v),(21,.val (.int .i64 ((Int.toNat p1:Nat):Int))),(22,.val (.int .i64 x.t22))],own:=spO 45 0 [(6,⟨47,.fixed [.val x.o6.rows.v]⟩),(13,⟨23,.dyn x.o13⟩)] }) I0 J0 (.seq (.reg [A 23 0]) (.seq (.cond .leaf .leaf) (.seq (.block (.seq (.reg [A 24 2,A 9 2]) (.reg [A 25 2,A 26 2,A 27 2,A 28 2,A 29 2,A 30 0,A 31 2,A 32 2,A 33 0,A 34 2,A 35 0,A 36 7,A 37 7,A 13 6]))) (.reg [A 38 0,A 22 2]))))))) (.seq (.pub 13 (.reg [A 40 2,A 41 10,A 39 2,A 42 0,A 43 0,A 10 3,A 10 6,A 11 2])) (.seq (.reg [A 10 4,A 6 6]) .leaf))))))
 (Eq.mpr (by kernel_rfl) (show waveportlaw07_rows_sk p0 p1 p2 V R I0 (λc w V=>∃x,waveportlaw07_rows_f0 p1 p2 c w x/\I0 c x V) (λc w V y U=>∃x,waveportlaw07_rows_f0 p1 p2 c w x/\I0 c x V/\J0 c x V<J0 c y U)from by
 have h:=Eq.mpr e h; unfold waveportlaw07_rows_sk at h ⊢; have Ee0:=λc w V (h:I0 c w V)=>(⟨w,⟨⟨rfl,rfl,rfl,rfl,rfl,rfl,trivial⟩,⟨rfl,rfl,trivial⟩⟩,h⟩:∃x,waveportlaw07_rows_f0 p1 p2 c w x/\I0 c x V); have Bb0:=λc w V y U (h:I0 c w V/\J0 c w V<J0 c y U)=>(⟨w,⟨⟨rfl,rfl,rfl,rfl,rfl,rfl,trivial⟩,⟨rfl,rfl,trivial⟩⟩,h⟩:∃x,waveportlaw07_rows_f0 p1 p2 c w x/\I0 c x V/\J0 c x V<J0 c y U); exact⟨h.1,(CallV.mono h.2 (λ_ _ _ ⟨r1,h11,h10⟩=>⟨r1,h11,(CallV.mono h10 (λ_ _ _ ⟨r2,h9,h8⟩=>⟨r2,h9,⟨(Ee0 _ _ _ h8.1),λx2 V3 h6 h7=>⟨λh5=>⟨((h8.2 x2 V3 h6 h7).1 h5).1,⟨((h8.2 x2 V3 h6 h7).1 h5).2.1,⟨((h8.2 x2 V3 h6 h7).1 h5).2.2.1,(Bb0 _ _ _ _ _ ((h8.2 x2 V3 h6 h7).1 h5).2.2.2)⟩⟩⟩,λh5=>(λb1 V4 h3 h4=>(CallV.mono (((h8.2 x2 V3 h6 h7).2 h5) b1 V4 h3 h4) (λ_ _ _ ⟨r3,r4,h2,h1⟩=>⟨r3,r4,h2,h1⟩)))⟩⟩⟩))⟩))⟩))
theorem waveportlaw07_rows_vc:type_of% (λp0 p1 p2 V R I0 J0=>waveportlaw07_rows_v0 p0 p1 p2 V R I0 J0 (waveportlaw07_rows_sk.eq_1 ..)):=λp0 p1 p2 V R I0 J0=>waveportlaw07_rows_v0 p0 p1 p2 V R I0 J0 (waveportlaw07_rows_sk.eq_1 ..)
structure L_waveportlaw07_equal_0 where(u:Unit)
structure C_waveportlaw07_equal_0 where(t5:Int)
structure L_waveportlaw07_equal_1 where(t33:Int)
structure C_waveportlaw07_equal_1 where(t32:Int)
def waveportlaw07_equal_f0(p0:GridV)(p1:GridV)(c:C_waveportlaw07_equal_0)(_w _x:L_waveportlaw07_equal_0):Prop:=(Q1 (.own 2 0)/\Q1 (.own 3 0)/\Q1 (.val (.int .i64 c.t5))/\True)/\(O2 ⟨47,.fixed [.val p0.rows.v]⟩ ⟨47,.fixed [.val p0.rows.v]⟩/\O2 ⟨47,.fixed [.val p1.rows.v]⟩ ⟨47,.fixed [.val p1.rows.v]⟩/\True)
def waveportlaw07_equal_f1(p0:GridV)(p1:GridV)(c:C_waveportlaw07_equal_1)(w x:L_waveportlaw07_equal_1):Prop:=(Q1 (.own 2 0)/\Q1 (.own 3 0)/\Q1 (.val (.int .i64 c.t32))/\E2 (.val (.int .i64 w.t33)) (.val (.int .i64 x.t33))/\True)/\(O2 ⟨47,.fixed [.val p0.rows.v]⟩ ⟨47,.fixed [.val p0.rows.v]⟩/\O2 ⟨47,.fixed [.val p1.rows.v]⟩ ⟨47,.fixed [.val p1.rows.v]⟩/\True)
def waveportlaw07_equal_sk(p0:GridV)(p1:GridV)(V:View)(R:Value->View->Prop)(I0:C_waveportlaw07_equal_0->L_waveportlaw07_equal_0->View->Prop)(I1:C_waveportlaw07_equal_1->L_waveportlaw07_equal_1->View->Prop)(E0:C_waveportlaw07_equal_0->L_waveportlaw07_equal_0->View->Prop)(E1:C_waveportlaw07_equal_1->L_waveportlaw07_equal_1->View->Prop)(B1:C_waveportlaw07_equal_1->L_waveportlaw07_equal_1->View->L_waveportlaw07_equal_1->View->Prop):Prop :=
 CallV Try.prog 23 #[p0.val] V λv V1=>∃(r1:Int) (r2:Int),v = .tuple #[.int .i64 r1,.int .i64 r2] /\
 CallV Try.prog 23 #[p1.val] V1 λv V2=>∃(r3:Int) (r4:Int),v = .tuple #[.int .i64 r3,.int .i64 r4] /\
 ((((r1:Int) != r3)=true ->
 R (.bool false) V2) /\
 (((r1:Int) != r3)=false ->
 (((r2:Int) != r4)=true ->
 R (.bool false) V2) /\
 (((r2:Int) != r4)=false ->
 E0 (C_waveportlaw07_equal_0.mk r1) (L_waveportlaw07_equal_0.mk ()) V2))) /\
 (∀(x1:L_waveportlaw07_equal_0) (V3:View),View.le V2 V3->I0 (C_waveportlaw07_equal_0.mk r1) x1 V3 ->
 E1 (C_waveportlaw07_equal_1.mk r1) (L_waveportlaw07_equal_1.mk 0) V3 /\
 (∀(x4:L_waveportlaw07_equal_1) (V4:View),View.le V3 V4->I1 (C_waveportlaw07_equal_1.mk r1) x4 V4 ->
 ((decide ((x4.t33:Int)<r1))=true ->
 CallV Try.prog 56 #[p0.val,.int .i64 x4.t33] V4 λv V5=>∃(r5:Sl) (r6:Int),v = .tuple #[r5.v,.int .i64 r6] /\
 CallV Try.prog 56 #[p1.val,.int .i64 x4.t33] V5 λv V6=>∃(r7:Sl) (r8:Int),v = .tuple #[r7.v,.int .i64 r8] /\
 CallV Try.prog 9 #[r5.v,.int .i64 r6,r7.v,.int .i64 r8] V6 λv V7=>∃r9:Bool,v = .bool r9 /\
 ((!r9)=true ->
 R (.bool false) V7) /\
 ((!r9)=false ->
 B1 (C_waveportlaw07_equal_1.mk r1) (L_waveportlaw07_equal_1.mk (i64.wrap (x4.t33+1))) V7 x4 V4)) /\
 ((decide ((x4.t33:Int)<r1))=false ->
 R (.bool true) V4)))
theorem waveportlaw07_equal_v0(p0:GridV)(p1:GridV)(V:View)(R:Value->View->Prop)(I0:C_waveportlaw07_equal_0->L_waveportlaw07_equal_0->View->Prop)(I1:C_waveportlaw07_equal_1->L_waveportlaw07_equal_1->View->Prop)(J1:C_waveportlaw07_equal_1->L_waveportlaw07_equal_1->View->Nat){X:Prop}(e:waveportlaw07_equal_sk p0 p1 V R I0 I1 I0 I1 (λc w V x U=>I1 c w V/\J1 c w V<J1 c x U)=X)(h:X) :
 CallV Try.prog 24 #[p0.val,p1.val] V R :=
 calls_of_vc (Shp:=Shp) hmixed Try.func24 (c:=Try.f24.body.getD .skip) (args:=[p0.val,p1.val]) (by kernel_rfl)
 (.seq (.reg [A 2 3,A 3 3,A 4 9]) (.seq (.reg [A 2 4,A 16 10,A 14 2,A 17 0,A 18 0,A 5 2,A 6 2]) (.seq (.reg [A 3 4,A 21 10,A 19 2,A 22 0,A 23 0,A 7 2,A 8 2]) (.cut C_waveportlaw07_equal_0 L_waveportlaw07_equal_0 (λσ=>C_waveportlaw07_equal_0.mk (gInt (gTm σ 5))) (λc x=>{ tm:=spT 55 0 [(2,.own 2 0),(3,.own 3 0),(5,.val (.int .i64 c.t5))],own:=spO 55 0 [(2,⟨47,.fixed [.val p0.rows.v]⟩),(3,⟨47,.fixed [.val p1.rows.v]⟩)] }) I0 (.seq (.reg [A 24 2,A 25 2,A 26 0,⟨27,2,true⟩,A 28 2,A 29 2,A 30 0,A 31 20]) (.cond (.seq (.reg [A 4 9]) .leaf) .leaf)) (.seq (.seq (.reg [A 32 2,A 33 2]) (.block (.loop C_waveportlaw07_equal_1 L_waveportlaw07_equal_1 (λσ=>C_waveportlaw07_equal_1.mk (gInt (gTm σ 32))) (λc x=>{ tm:=spT 55 0 [(2,.own 2 0),(3,.own 3 0),(32,.val (.int .i64 c.t32)),(33,.val (.int .i64 x.t33))],own:=spO 55 0 [(2,⟨47,.fixed [.val p0.rows.v]⟩),(3,⟨47,.fixed [.val p1.rows.v]⟩)] }) I1 J1 (.seq (.reg [A 34 0]) (.seq (.cond .leaf .leaf) (.seq (.block (.seq (.reg [A 35 2,A 9 2]) (.seq (.reg [A 2 4,A 38 2,A 39 10,A 36 2,A 40 0,A 41 0,A 10 2,A 11 2]) (.seq (.reg [A 3 4,A 44 2,A 45 10,A 42 2,A 46 0,A 47 0,A 12 2,A 13 2]) (.seq (.reg [A 48 2,A 49 2,A 50 2,A 51 2,A 52 10,A 53 20]) (.cond (.seq (.reg [A 4 9]) .leaf) .leaf)))))) (.reg [A 54 0,A 33 2]))))))) (.seq (.reg [A 4 9]) .leaf))))))
 (Eq.mpr (by kernel_rfl) (show waveportlaw07_equal_sk p0 p1 V R I0 I1 (λc w V=>∃x,waveportlaw07_equal_f0 p0 p1 c w x/\I0 c x V) (λc w V=>∃x,waveportlaw07_equal_f1 p0 p1 c w x/\I1 c x V) (λc w V y U=>∃x,waveportlaw07_equal_f1 p0 p1 c w x/\I1 c x V/\J1 c x V<J1 c y U)from by
 have h:=Eq.mpr e h; unfold waveportlaw07_equal_sk at h ⊢; have Ee0:=λc w V (h:I0 c w V)=>(⟨w,⟨⟨rfl,rfl,rfl,trivial⟩,⟨rfl,rfl,trivial⟩⟩,h⟩:∃x,waveportlaw07_equal_f0 p0 p1 c w x/\I0 c x V); have Ee1:=λc w V (h:I1 c w V)=>(⟨w,⟨⟨rfl,rfl,rfl,rfl,trivial⟩,⟨rfl,rfl,trivial⟩⟩,h⟩:∃x,waveportlaw07_equal_f1 p0 p1 c w x/\I1 c x V); have Bb1:=λc w V y U (h:I1 c w V/\J1 c w V<J1 c y U)=>(⟨w,⟨⟨rfl,rfl,rfl,rfl,trivial⟩,⟨rfl,rfl,trivial⟩⟩,h⟩:∃x,waveportlaw07_equal_f1 p0 p1 c w x/\I1 c x V/\J1 c x V<J1 c y U); exact(CallV.mono h (λ_ _ _ ⟨r1,r2,h18,h17⟩=>⟨r1,r2,h18,(CallV.mono h17 (λ_ _ _ ⟨r3,r4,h16,h15⟩=>⟨r3,r4,h16,⟨⟨λh2=>(h15.1.1 h2),λh2=>⟨λh1=>((h15.1.2 h2).1 h1),λh1=>(Ee0 _ _ _ ((h15.1.2 h2).2 h1))⟩⟩,λx1 V3 h13 h14=>⟨(Ee1 _ _ _ (h15.2 x1 V3 h13 h14).1),λx4 V4 h11 h12=>⟨λh10=>(CallV.mono (((h15.2 x1 V3 h13 h14).2 x4 V4 h11 h12).1 h10) (λ_ _ _ ⟨r5,r6,h9,h8⟩=>⟨r5,r6,h9,(CallV.mono h8 (λ_ _ _ ⟨r7,r8,h7,h6⟩=>⟨r7,r8,h7,(CallV.mono h6 (λ_ _ _ ⟨r9,h5,h4⟩=>⟨r9,h5,⟨λh3=>(h4.1 h3),λh3=>(Bb1 _ _ _ _ _ (h4.2 h3))⟩⟩))⟩))⟩)),λh10=>(((h15.2 x1 V3 h13 h14).2 x4 V4 h11 h12).2 h10)⟩⟩⟩⟩))⟩))))
theorem waveportlaw07_equal_vc:type_of% (λp0 p1 V R I0 I1 J1=>waveportlaw07_equal_v0 p0 p1 V R I0 I1 J1 (waveportlaw07_equal_sk.eq_1 ..)):=λp0 p1 V R I0 I1 J1=>waveportlaw07_equal_v0 p0 p1 V R I0 I1 J1 (waveportlaw07_equal_sk.eq_1 ..)
theorem waveportlaw07_TransformRectangles_vc(p0:Sl)(p1:Int)(p2:Int)(V:View)(R:Value->View->Prop)
 (h :
 (0:Int)<=(Int.tmod p1 3) /\
 (0:Int)<=(Int.tmod p2 3) /\
 CallV Try.prog 18 #[p0.v,.int .i64 (i64.wrap (1*2^(min (Int.toNat (Int.tmod p1 3)) (IntKind.bits .i64)))),.int .i64 (i64.wrap (1*2^(min (Int.toNat (Int.tmod p2 3)) (IntKind.bits .i64))))] V λv V1=>∃r1:GridV,v=r1.val /\
 CallV Try.prog 19 #[.int .i64 (i64.wrap (1*2^(min (Int.toNat (Int.tmod p2 3)) (IntKind.bits .i64))))] V1 λv V2=>∃(r2:Sl) (r3:Int),v = .tuple #[r2.v,.int .i64 r3] /\
 CallV Try.prog 19 #[.int .i64 (i64.wrap (1*2^(min (Int.toNat (Int.tmod p1 3)) (IntKind.bits .i64))))] V2 λv V3=>∃(r4:Sl) (r5:Int),v = .tuple #[r4.v,.int .i64 r5] /\
 CallV Try.prog 20 #[r1.val,r2.v,r4.v] V3 λv V4=>∃(r6:GridV) (r7:Int),v = .tuple #[r6.val,.int .i64 r7] /\
 CallV Try.prog 21 #[r6.val,r2.v,r4.v] V4 λv V5=>∃(r8:GridV) (r9:Int),v = .tuple #[r8.val,.int .i64 r9] /\
 CallV Try.prog 22 #[r1.val] V5 λv V6=>∃r10:GridV,v=r10.val /\
 CallV Try.prog 20 #[r10.val,r4.v,r2.v] V6 λv V7=>∃(r11:GridV) (r12:Int),v = .tuple #[r11.val,.int .i64 r12] /\
 CallV Try.prog 23 #[r1.val] V7 λv V8=>∃(r13:Int) (r14:Int),v = .tuple #[.int .i64 r13,.int .i64 r14] /\
 (((r3:Int)==0)=true ->
 (((r5:Int)==0)=true ->
 (((r7:Int)==0)=true ->
 (((r9:Int)==0)=true ->
 (((r12:Int)==0)=true ->
 (((r13:Int)==(i64.wrap (1*2^(min (Int.toNat (Int.tmod p1 3)) (IntKind.bits .i64)))))=true ->
 (((r14:Int)==(i64.wrap (1*2^(min (Int.toNat (Int.tmod p2 3)) (IntKind.bits .i64)))))=true ->
 CallV Try.prog 24 #[r8.val,r1.val] V8 λv V9=>∃r15:Bool,v = .bool r15 /\
 (r15=true ->
 CallV Try.prog 22 #[r6.val] V9 λv V10=>∃r16:GridV,v=r16.val /\
 CallV Try.prog 24 #[r11.val,r16.val] V10 λv V11=>∃r17:Bool,v = .bool r17 /\
 (r17=true ->
 CallV Try.prog 22 #[r1.val] V11 λv V12=>∃r18:GridV,v=r18.val /\
 CallV Try.prog 22 #[r18.val] V12 λv V13=>∃r19:GridV,v=r19.val /\
 CallV Try.prog 24 #[r19.val,r1.val] V13 λv V14=>∃r20:Bool,v = .bool r20 /\
 (r20=true ->
 CallV Try.prog 17 #[] V14 λv V15=>∃r21:Bool,v = .bool r21 /\
 R (.bool r21) V15) /\
 (r20=false ->
 R (.bool false) V14)) /\
 (r17=false ->
 R (.bool false) V11)) /\
 (r15=false ->
 R (.bool false) V9)) /\
 (((r14:Int)==(i64.wrap (1*2^(min (Int.toNat (Int.tmod p2 3)) (IntKind.bits .i64)))))=false ->
 R (.bool false) V8)) /\
 (((r13:Int)==(i64.wrap (1*2^(min (Int.toNat (Int.tmod p1 3)) (IntKind.bits .i64)))))=false ->
 R (.bool false) V8)) /\
 (((r12:Int)==0)=false ->
 R (.bool false) V8)) /\
 (((r9:Int)==0)=false ->
 R (.bool false) V8)) /\
 (((r7:Int)==0)=false ->
 R (.bool false) V8)) /\
 (((r5:Int)==0)=false ->
 R (.bool false) V8)) /\
 (((r3:Int)==0)=false ->
 R (.bool false) V8)) :
 CallV Try.prog 4 #[p0.v,.int .u8 p1,.int .u8 p2] V R :=
 calls_of_vc (Shp:=Shp) hmixed Try.func4 (c:=Try.f4.body.getD .skip) (args:=[p0.v,.int .u8 p1,.int .u8 p2]) (by kernel_rfl)
 (.seq (.reg [A 6 9]) (.seq (.reg [A 22 2,A 23 0,A 24 12,A 25 2,A 26 0,A 27 12,A 7 2,A 8 2]) (.seq (.reg [A 28 2,A 29 2,A 30 2,A 31 10,A 9 3,A 9 6]) (.seq (.reg [A 33 2,A 34 10,A 32 2,A 35 0,A 36 0,A 10 2,A 11 2]) (.seq (.reg [A 38 2,A 39 10,A 37 2,A 40 0,A 41 0,A 12 2,A 13 2]) (.seq (.reg [A 9 4,A 44 2,A 45 2,A 46 10,A 42 2,A 47 0,A 48 0,A 14 3,A 14 6,A 15 2]) (.seq (.reg [A 14 4,A 51 2,A 52 2,A 53 10,A 49 2,A 54 0,A 55 0,A 16 3,A 16 6,A 17 2]) (.seq (.reg [A 9 4,A 58 10,A 59 2,A 60 2,A 61 10,A 56 2,A 62 0,A 63 0,A 18 3,A 18 6,A 19 2]) (.seq (.reg [A 9 4,A 66 10,A 64 2,A 67 0,A 68 0,A 20 2,A 21 2]) (.seq (.draw [(0,A 69 2),(1,A 70 0),(2,⟨71,2,true⟩),(3,A 72 2),(4,A 73 0),(5,A 74 20),(6,⟨75,2,true⟩),(7,A 76 2),(8,A 77 0),(9,A 78 20),(10,⟨79,2,true⟩),(11,A 80 2),(12,A 81 0),(13,A 82 20),(14,⟨83,2,true⟩),(15,A 84 2),(16,A 85 0),(17,A 86 20),(18,⟨87,2,true⟩),(19,A 88 2),(20,A 89 2),(21,A 90 0),(22,A 91 20),(23,⟨92,2,true⟩),(24,A 93 2),(25,A 94 2),(26,A 95 0),(27,A 96 20),(28,⟨97,2,true⟩),(29,A 16 4),(30,A 9 4),(31,A 100 10),(32,A 101 20),(33,⟨102,2,true⟩),(34,A 18 4),(35,A 14 4),(36,A 105 10),(37,A 106 10),(38,A 107 20),(39,⟨108,2,true⟩),(40,A 9 4),(43,A 9 4),(41,A 110 10),(42,A 111 10),(44,A 113 10),(45,A 114 20),(46,⟨115,2,true⟩),(47,A 116 10),(48,A 117 20),(49,A 6 2)] [0,1,3,7,15,31,63,127,255,511,1023,2047,4095,8191,16383,32767,65535,131071,262143,524287,524287,2097151,4194303,8388607,16777215,16777215,67108863,134217727,268435455,536870911,536870911,2147483647,4294967295,8589934591,17179869183,17179869183,51539607551,137438953471,274877906943,549755813887,1099511627775,2199023255551,4398046511103,1099511627775,17592186044415,35184372088831,70368744177663,140737488355327,281474976710655,562949953421311]) .leaf))))))))))
 (Eq.mpr (by kernel_rfl) h)
