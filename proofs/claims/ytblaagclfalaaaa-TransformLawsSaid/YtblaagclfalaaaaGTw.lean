/- Part of the proof; it has the parts GTw. -/
import Derived.Test.YtblaagclfalaaaaFGate
set_option maxRecDepth 100000
set_option maxHeartbeats 4000000
namespace Go.Proofs.Ytblaagclfalaaaa
open Go Go.Vc Go.Proofs
open Go.IntKind (i8 i16 i32 i64 u8 u16 u32 u64)
structure L_waveportlaw07_TransformLaws_0 where(u:Unit)
structure C_waveportlaw07_TransformLaws_0 where(t9 t10 t11:Sl)(t13:Int)(t14 t16:Sl)(o0:View)
structure L_waveportlaw07_TransformLaws_1 where(o0:View)
structure C_waveportlaw07_TransformLaws_1 where(t9 t10 t11:Sl)(t13:Int)(t14 t16:Sl)
structure L_waveportlaw07_TransformLaws_2 where(o0:View)
structure C_waveportlaw07_TransformLaws_2 where(t9 t10:Sl)(t13:Int)(t14 t24 t28:Sl)(t29:Int)
structure L_waveportlaw07_TransformLaws_3 where(t175:Int)(o0:View)
structure C_waveportlaw07_TransformLaws_3 where(t10:Sl)(t13:Int)(t14 t32:Sl)(t33 t174:Int)
def waveportlaw07_TransformLaws_f0(p3:Int)(c:C_waveportlaw07_TransformLaws_0)(_w _x:L_waveportlaw07_TransformLaws_0):Prop:=(Q1 (.val (.int .i64 p3))/\Q1 (.val c.t9.v)/\Q1 (.val c.t10.v)/\Q1 (.val c.t11.v)/\Q1 (.val (.int .i64 c.t13))/\Q1 (.val c.t14.v)/\Q1 (.val c.t16.v)/\True)/\(O2 ⟨0,.reg c.o0⟩ ⟨0,.reg c.o0⟩/\True)
def waveportlaw07_TransformLaws_f1(p3:Int)(c:C_waveportlaw07_TransformLaws_1)(w x:L_waveportlaw07_TransformLaws_1):Prop:=(Q1 (.val (.int .i64 p3))/\Q1 (.val c.t9.v)/\Q1 (.val c.t10.v)/\Q1 (.val c.t11.v)/\Q1 (.val (.int .i64 c.t13))/\Q1 (.val c.t14.v)/\Q1 (.val c.t16.v)/\True)/\(O2 ⟨0,.reg w.o0⟩ ⟨0,.reg x.o0⟩/\True)
def waveportlaw07_TransformLaws_f2(p3:Int)(c:C_waveportlaw07_TransformLaws_2)(w x:L_waveportlaw07_TransformLaws_2):Prop:=(Q1 (.val (.int .i64 p3))/\Q1 (.val c.t9.v)/\Q1 (.val c.t10.v)/\Q1 (.val (.int .i64 c.t13))/\Q1 (.val c.t14.v)/\Q1 (.val c.t24.v)/\Q1 (.val c.t28.v)/\Q1 (.val (.int .i64 c.t29))/\True)/\(O2 ⟨0,.reg w.o0⟩ ⟨0,.reg x.o0⟩/\True)
def waveportlaw07_TransformLaws_f3(p3:Int)(c:C_waveportlaw07_TransformLaws_3)(w x:L_waveportlaw07_TransformLaws_3):Prop:=(Q1 (.val (.int .i64 p3))/\Q1 (.val c.t10.v)/\Q1 (.val (.int .i64 c.t13))/\Q1 (.val c.t14.v)/\Q1 (.val c.t32.v)/\Q1 (.val (.int .i64 c.t33))/\Q1 (.val (.int .i64 c.t174))/\E2 (.val (.int .i64 w.t175)) (.val (.int .i64 x.t175))/\True)/\(O2 ⟨0,.reg w.o0⟩ ⟨0,.reg x.o0⟩/\True)
def waveportlaw07_TransformLaws_sk(p0:Sl)(p1:Sl)(p2:Int)(p3:Int)(V:View)(R:Value->View->Prop)(I0:C_waveportlaw07_TransformLaws_0->L_waveportlaw07_TransformLaws_0->View->Prop)(I1:C_waveportlaw07_TransformLaws_1->L_waveportlaw07_TransformLaws_1->View->Prop)(I2:C_waveportlaw07_TransformLaws_2->L_waveportlaw07_TransformLaws_2->View->Prop)(I3:C_waveportlaw07_TransformLaws_3->L_waveportlaw07_TransformLaws_3->View->Prop)(E0:C_waveportlaw07_TransformLaws_0->L_waveportlaw07_TransformLaws_0->View->Prop)(E1:C_waveportlaw07_TransformLaws_1->L_waveportlaw07_TransformLaws_1->View->Prop)(E2:C_waveportlaw07_TransformLaws_2->L_waveportlaw07_TransformLaws_2->View->Prop)(E3:C_waveportlaw07_TransformLaws_3->L_waveportlaw07_TransformLaws_3->View->Prop)(B3:C_waveportlaw07_TransformLaws_3->L_waveportlaw07_TransformLaws_3->View->L_waveportlaw07_TransformLaws_3->View->Prop):Prop :=
 CallR Try.prog 4 #[p0.v,.int .u8 p2] (λ_=>none:View) V λv m1 V1=>∃(r1:Sl) (r2:Sl),v = .tuple #[r1.v,r2.v] /\
 CallR Try.prog 4 #[p1.v,.int .u8 p2] m1 V1 λv m2 V2=>∃(r3:Sl) (r4:Sl),v = .tuple #[r3.v,r4.v] /\
 CallR Try.prog 5 #[r1.v,r2.v] m2 V2 λv m3 V3=>∃(r5:Sl) (r6:Int),v = .tuple #[r5.v,.int .i64 r6] /\
 CallR Try.prog 5 #[r3.v,r2.v] m3 V3 λv m4 V4=>∃(r7:Sl) (r8:Int),v = .tuple #[r7.v,.int .i64 r8] /\
 ((((r6:Int) != 0)=true ->
 ((0:Nat)≠1) /\
 ∀(V6:View),View.le V4 V6->(∀(b:Nat) (cs:Array Value),m4 b=some cs->V6 b=some cs) ->
 R (.bool false) V6) /\
 (((r6:Int) != 0)=false ->
 (((r8:Int) != 0)=true ->
 ((0:Nat)≠1) /\
 ∀(V7:View),View.le V4 V7->(∀(b:Nat) (cs:Array Value),m4 b=some cs->V7 b=some cs) ->
 R (.bool false) V7) /\
 (((r8:Int) != 0)=false ->
 ((((r5.len:Int):Int) != (r1.len:Int))=true ->
 ((0:Nat)≠1) /\
 ∀(V8:View),View.le V4 V8->(∀(b:Nat) (cs:Array Value),m4 b=some cs->V8 b=some cs) ->
 R (.bool false) V8) /\
 ((((r5.len:Int):Int) != (r1.len:Int))=false ->
 ((((r7.len:Int):Int) != (r1.len:Int))=true ->
 ((0:Nat)≠1) /\
 ∀(V9:View),View.le V4 V9->(∀(b:Nat) (cs:Array Value),m4 b=some cs->V9 b=some cs) ->
 R (.bool false) V9) /\
 ((((r7.len:Int):Int) != (r1.len:Int))=false ->
 E0 (C_waveportlaw07_TransformLaws_0.mk r1 r2 r3 (r1.len:Int) r5 r7 m4) (L_waveportlaw07_TransformLaws_0.mk ()) V4))))) /\
 (∀(x1:L_waveportlaw07_TransformLaws_0) (V5:View),View.le V4 V5->I0 (C_waveportlaw07_TransformLaws_0.mk r1 r2 r3 (r1.len:Int) r5 r7 m4) x1 V5 ->
 CallR Try.prog 6 #[r1.v,r3.v] m4 V5 λv m5 V10=>∃r9:Sl,v=r9.v /\
 CallR Try.prog 5 #[r9.v,r2.v] m5 V10 λv m6 V11=>∃(r10:Sl) (r11:Int),v = .tuple #[r10.v,.int .i64 r11] /\
 CallR Try.prog 6 #[r5.v,r7.v] m6 V11 λv m7 V12=>∃r12:Sl,v=r12.v /\
 CallR Try.prog 7 #[r10.v,.int .i64 r11,r12.v,.int .i64 0] m7 V12 λv m8 V13=>∃r13:Bool,v = .bool r13 /\
 ((!r13)=true ->
 ((0:Nat)≠1) /\
 ∀(V14:View),View.le V13 V14->(∀(b:Nat) (cs:Array Value),m8 b=some cs->V14 b=some cs) ->
 R (.bool false) V14) /\
 ((!r13)=false ->
 CallR Try.prog 8 #[r1.v] m8 V13 λv m9 V15=>∃(r14:NumV) (r15:Int),v = .tuple #[r14.val,.int .i64 r15] /\
 CallR Try.prog 8 #[r5.v] m9 V15 λv m10 V16=>∃(r16:NumV) (r17:Int),v = .tuple #[r16.val,.int .i64 r17] /\
 ((((r15:Int) != 0)=true ->
 ((0:Nat)≠1) /\
 ∀(V18:View),View.le V16 V18->(∀(b:Nat) (cs:Array Value),m10 b=some cs->V18 b=some cs) ->
 R (.bool false) V18) /\
 (((r15:Int) != 0)=false ->
 (((r17:Int) != 0)=true ->
 ((0:Nat)≠1) /\
 ∀(V19:View),View.le V16 V19->(∀(b:Nat) (cs:Array Value),m10 b=some cs->V19 b=some cs) ->
 R (.bool false) V19) /\
 (((r17:Int) != 0)=false ->
 CallR Try.prog 11 #[.int .i64 (r1.len:Int)] m10 V16 λv m11 V20=>∃r18:NumV,v=r18.val /\
 CallR Try.prog 10 #[r14.val,r18.val] m11 V20 λv m12 V21=>∃r19:NumV,v=r19.val /\
 CallR Try.prog 9 #[r16.val,r19.val] m12 V21 λv m13 V22=>∃r20:Bool,v = .bool r20 /\
 ((!r20)=true ->
 ((0:Nat)≠1) /\
 ∀(V23:View),View.le V22 V23->(∀(b:Nat) (cs:Array Value),m13 b=some cs->V23 b=some cs) ->
 R (.bool false) V23) /\
 ((!r20)=false ->
 E1 (C_waveportlaw07_TransformLaws_1.mk r1 r2 r3 (r1.len:Int) r5 r7) (L_waveportlaw07_TransformLaws_1.mk m13) V22)))) /\
 (∀(x3:L_waveportlaw07_TransformLaws_1) (V17:View),View.le V16 V17->I1 (C_waveportlaw07_TransformLaws_1.mk r1 r2 r3 (r1.len:Int) r5 r7) x3 V17 ->
 CallR Try.prog 12 #[r1.v,r3.v] x3.o0 V17 λv m14 V24=>∃(r21:Sl) (r22:Int),v = .tuple #[r21.v,.int .i64 r22] /\
 CallR Try.prog 12 #[r3.v,r1.v] m14 V24 λv m15 V25=>∃(r23:Sl) (r24:Int),v = .tuple #[r23.v,.int .i64 r24] /\
 CallR Try.prog 13 #[r5.v,r7.v] m15 V25 λv m16 V26=>∃(r25:Sl) (r26:Int),v = .tuple #[r25.v,.int .i64 r26] /\
 (CallR Try.prog 7 #[r21.v,.int .i64 r22,r23.v,.int .i64 r24] m16 V26 λv m17 V28=>∃r27:Bool,v = .bool r27 /\
 ((!r27)=true ->
 ((0:Nat)≠1) /\
 ∀(V29:View),View.le V28 V29->(∀(b:Nat) (cs:Array Value),m17 b=some cs->V29 b=some cs) ->
 R (.bool false) V29) /\
 ((!r27)=false ->
 (((r26:Int) != 0)=true ->
 ((0:Nat)≠1) /\
 ∀(V30:View),View.le V28 V30->(∀(b:Nat) (cs:Array Value),m17 b=some cs->V30 b=some cs) ->
 R (.bool false) V30) /\
 (((r26:Int) != 0)=false ->
 E2 (C_waveportlaw07_TransformLaws_2.mk r1 r2 (r1.len:Int) r5 r21 r25 r26) (L_waveportlaw07_TransformLaws_2.mk m17) V28))) /\
 (∀(x5:L_waveportlaw07_TransformLaws_2) (V27:View),View.le V26 V27->I2 (C_waveportlaw07_TransformLaws_2.mk r1 r2 (r1.len:Int) r5 r21 r25 r26) x5 V27 ->
 CallR Try.prog 5 #[r21.v,r2.v] x5.o0 V27 λv m18 V31=>∃(r28:Sl) (r29:Int),v = .tuple #[r28.v,.int .i64 r29] /\
 CallR Try.prog 7 #[r28.v,.int .i64 r29,r25.v,.int .i64 r26] m18 V31 λv m19 V32=>∃r30:Bool,v = .bool r30 /\
 ((!r30)=true ->
 ((0:Nat)≠1) /\
 ∀(V33:View),View.le V32 V33->(∀(b:Nat) (cs:Array Value),m19 b=some cs->V33 b=some cs) ->
 R (.bool false) V33) /\
 ((!r30)=false ->
 CallR Try.prog 14 #[r1.v,.int .i64 p3] m19 V32 λv m20 V34=>∃(r31:Sl) (r32:Int),v = .tuple #[r31.v,.int .i64 r32] /\
 (((r32:Int) != 0)=true ->
 ((0:Nat)≠1) /\
 ∀(V35:View),View.le V34 V35->(∀(b:Nat) (cs:Array Value),m20 b=some cs->V35 b=some cs) ->
 R (.bool false) V35) /\
 (((r32:Int) != 0)=false ->
 CallR Try.prog 5 #[r31.v,r2.v] m20 V34 λv m21 V36=>∃(r33:Sl) (r34:Int),v = .tuple #[r33.v,.int .i64 r34] /\
 E3 (C_waveportlaw07_TransformLaws_3.mk r2 (r1.len:Int) r5 r33 r34 (r5.len:Int)) (L_waveportlaw07_TransformLaws_3.mk 0 m21) V36 /\
 (∀(x8:L_waveportlaw07_TransformLaws_3) (V37:View),View.le V36 V37->I3 (C_waveportlaw07_TransformLaws_3.mk r2 (r1.len:Int) r5 r33 r34 (r5.len:Int)) x8 V37 ->
 ((decide ((x8.t175:Int)<(r5.len:Int)))=true ->
 ((0:Int)<=x8.t175/\(x8.t175:Int)<(r5.len:Nat)/\Option.isSome r5.a=true) /\
 ∃x9:NumV,has2 x8.o0 V37 (Option.map (λq=>Addr.add q (Int.toNat x8.t175*5)) r5.a) (x9.val).cells.toList/\Option.isSome (Option.map (λq=>Addr.add q (Int.toNat x8.t175*5)) r5.a)=true /\
 ((r1.len:Int):Int)≠0 /\
 ((r1.len:Int):Int)≠0 /\
 ((r1.len:Int):Int)≠0 /\
 ((0:Int)<=(Int.tmod (i64.wrap (x8.t175*(Int.tmod (i64.wrap ((Int.tmod p3 (r1.len:Int))+(r1.len:Int))) (r1.len:Int)))) (r1.len:Int))/\((Int.tmod (i64.wrap (x8.t175*(Int.tmod (i64.wrap ((Int.tmod p3 (r1.len:Int))+(r1.len:Int))) (r1.len:Int)))) (r1.len:Int)):Int)<(r2.len:Nat)/\Option.isSome r2.a=true) /\
 ∃x10:NumV,has2 x8.o0 V37 (Option.map (λq=>Addr.add q (Int.toNat (Int.tmod (i64.wrap (x8.t175*(Int.tmod (i64.wrap ((Int.tmod p3 (r1.len:Int))+(r1.len:Int))) (r1.len:Int)))) (r1.len:Int))*5)) r2.a) (x10.val).cells.toList/\Option.isSome (Option.map (λq=>Addr.add q (Int.toNat (Int.tmod (i64.wrap (x8.t175*(Int.tmod (i64.wrap ((Int.tmod p3 (r1.len:Int))+(r1.len:Int))) (r1.len:Int)))) (r1.len:Int))*5)) r2.a)=true /\
 CallR Try.prog 10 #[x9.val,x10.val] x8.o0 V37 λv m22 V38=>∃r35:NumV,v=r35.val /\
 ((0:Int)<=x8.t175/\(x8.t175:Int)<(r5.len:Nat)/\Option.isSome r5.a=true) /\
 ∃(b13:Nat) (c1:Nat) (l13:List Value),(Option.map (λq=>Addr.add q (Int.toNat x8.t175*5)) r5.a)=some (Addr.mk b13 c1 none)/\m22 b13=some (List.toArray l13)/\c1+5<=List.length l13 /\
 B3 (C_waveportlaw07_TransformLaws_3.mk r2 (r1.len:Int) r5 r33 r34 (r5.len:Int)) (L_waveportlaw07_TransformLaws_3.mk (i64.wrap (x8.t175+1)) (View.upd m22 b13 (List.toArray (setL l13 c1 [.bool r35.re.neg,r35.re.mag.v,.bool r35.im.neg,r35.im.mag.v,r35.under.v])))) V38 x8 V37) /\
 ((decide ((x8.t175:Int)<(r5.len:Int)))=false ->
 CallR Try.prog 7 #[r33.v,.int .i64 r34,r5.v,.int .i64 0] x8.o0 V37 λv m23 V39=>∃r36:Bool,v = .bool r36 /\
 (r36=true ->
 CallR Try.prog 15 #[] m23 V39 λv m24 V40=>∃r37:Bool,v = .bool r37 /\
 ((0:Nat)≠1) /\
 ∀(V41:View),View.le V40 V41->(∀(b:Nat) (cs:Array Value),m24 b=some cs->V41 b=some cs) ->
 R (.bool r37) V41) /\
 (r36=false ->
 ((0:Nat)≠1) /\
 ∀(V42:View),View.le V39 V42->(∀(b:Nat) (cs:Array Value),m23 b=some cs->V42 b=some cs) ->
 R (.bool false) V42)))))))))
theorem waveportlaw07_TransformLaws_v0(p0:Sl)(p1:Sl)(p2:Int)(p3:Int)(V:View)(R:Value->View->Prop)(I0:C_waveportlaw07_TransformLaws_0->L_waveportlaw07_TransformLaws_0->View->Prop)(I1:C_waveportlaw07_TransformLaws_1->L_waveportlaw07_TransformLaws_1->View->Prop)(I2:C_waveportlaw07_TransformLaws_2->L_waveportlaw07_TransformLaws_2->View->Prop)(I3:C_waveportlaw07_TransformLaws_3->L_waveportlaw07_TransformLaws_3->View->Prop)(J3:C_waveportlaw07_TransformLaws_3->L_waveportlaw07_TransformLaws_3->View->Nat){X:Prop}(e:waveportlaw07_TransformLaws_sk p0 p1 p2 p3 V R I0 I1 I2 I3 I0 I1 I2 I3 (λc w V x U=>I3 c w V/\J3 c w V<J3 c x U)=X)(h:X) :
 CallV Try.prog 3 #[p0.v,p1.v,.int .u8 p2,.int .i64 p3] V R :=
 calls_of_vc (Shp:=Shp) hmixed Try.func3 (c:=Try.f3.body.getD .skip) (args:=[p0.v,p1.v,.int .u8 p2,.int .i64 p3]) (by kernel_rfl)
 (.newR 0 0 (.seq (.reg [A 8 9]) (.seq (.reg [A 36 2,A 37 2,A 0 24,A 35 2,A 39 0,A 40 0,A 9 2,A 10 2]) (.seq (.reg [A 42 2,A 43 2,A 0 24,A 41 2,A 45 0,A 46 0,A 11 2,A 12 2]) (.seq (.reg [A 47 2,A 48 0,A 13 2]) (.seq (.reg [A 50 2,A 51 2,A 0 24,A 49 2,A 53 0,A 54 0,A 14 2,A 15 2]) (.seq (.reg [A 56 2,A 57 2,A 0 24,A 55 2,A 59 0,A 60 0,A 16 2,A 17 2]) (.cut C_waveportlaw07_TransformLaws_0 L_waveportlaw07_TransformLaws_0 (λσ=>C_waveportlaw07_TransformLaws_0.mk (Sl.mk (gSlA (gTm σ 9)) (gSlL (gTm σ 9)) (gSlC (gTm σ 9))) (Sl.mk (gSlA (gTm σ 10)) (gSlL (gTm σ 10)) (gSlC (gTm σ 10))) (Sl.mk (gSlA (gTm σ 11)) (gSlL (gTm σ 11)) (gSlC (gTm σ 11))) (gInt (gTm σ 13)) (Sl.mk (gSlA (gTm σ 14)) (gSlL (gTm σ 14)) (gSlC (gTm σ 14))) (Sl.mk (gSlA (gTm σ 16)) (gSlL (gTm σ 16)) (gSlC (gTm σ 16))) (gReg σ 0)) (λc x=>{ tm:=spT 208 0 [(3,.val (.int .i64 p3)),(9,.val c.t9.v),(10,.val c.t10.v),(11,.val c.t11.v),(13,.val (.int .i64 c.t13)),(14,.val c.t14.v),(16,.val c.t16.v)],own:=spO 208 0 [(0,⟨0,.reg c.o0⟩)] }) I0 (.seq (.reg [A 61 2,A 62 0,⟨63,2,true⟩,A 64 2,A 65 0,A 66 20,⟨67,2,true⟩,A 68 2,A 69 0,A 70 2,A 71 0,A 72 20,⟨73,2,true⟩,A 74 2,A 75 0,A 76 2,A 77 0,A 78 20]) (.cond (.seq (.reg [A 8 9]) (.pubR 0 .leaf)) .leaf)) (.seq (.reg [A 80 2,A 81 2,A 0 24,A 83 2,A 0 24,A 79 2,A 85 0,A 86 0,A 18 2,A 19 2]) (.seq (.seq (.reg [A 87 2,A 88 2,A 89 2,A 90 2,A 0 24,A 0 24,A 93 20]) (.cond (.seq (.reg [A 8 9]) (.pubR 0 .leaf)) .leaf)) (.seq (.reg [A 95 2,A 0 24,A 94 2,A 97 0,A 98 0,A 20 3,A 20 6,A 21 2]) (.seq (.reg [A 100 2,A 0 24,A 99 2,A 102 0,A 103 0,A 22 3,A 22 6,A 23 2]) (.cut C_waveportlaw07_TransformLaws_1 L_waveportlaw07_TransformLaws_1 (λσ=>C_waveportlaw07_TransformLaws_1.mk (Sl.mk (gSlA (gTm σ 9)) (gSlL (gTm σ 9)) (gSlC (gTm σ 9))) (Sl.mk (gSlA (gTm σ 10)) (gSlL (gTm σ 10)) (gSlC (gTm σ 10))) (Sl.mk (gSlA (gTm σ 11)) (gSlL (gTm σ 11)) (gSlC (gTm σ 11))) (gInt (gTm σ 13)) (Sl.mk (gSlA (gTm σ 14)) (gSlL (gTm σ 14)) (gSlC (gTm σ 14))) (Sl.mk (gSlA (gTm σ 16)) (gSlL (gTm σ 16)) (gSlC (gTm σ 16)))) (λc x=>{ tm:=spT 208 0 [(3,.val (.int .i64 p3)),(9,.val c.t9.v),(10,.val c.t10.v),(11,.val c.t11.v),(13,.val (.int .i64 c.t13)),(14,.val c.t14.v),(16,.val c.t16.v)],own:=spO 208 0 [(0,⟨0,.reg x.o0⟩)] }) I1 (.seq (.draw [(0,A 104 2),(1,A 105 0),(2,⟨106,2,true⟩),(3,A 107 2),(4,A 108 0),(5,A 109 20),(6,⟨110,2,true⟩),(7,A 22 4),(8,A 20 4),(9,A 113 2),(10,A 0 24),(11,A 0 24),(12,A 0 24),(13,A 117 20),(14,A 118 20)] [0,1,3,7,15,31,63,127,127,127,639,1919,4095,8191,16383]) (.cond (.seq (.reg [A 8 9]) (.pubR 0 .leaf)) .leaf)) (.seq (.reg [A 120 2,A 121 2,A 0 24,A 119 2,A 123 0,A 124 0,A 24 2,A 25 2]) (.seq (.reg [A 126 2,A 127 2,A 0 24,A 125 2,A 129 0,A 130 0,A 26 2,A 27 2]) (.seq (.reg [A 132 2,A 133 2,A 0 24,A 131 2,A 135 0,A 136 0,A 28 2,A 29 2]) (.cut C_waveportlaw07_TransformLaws_2 L_waveportlaw07_TransformLaws_2 (λσ=>C_waveportlaw07_TransformLaws_2.mk (Sl.mk (gSlA (gTm σ 9)) (gSlL (gTm σ 9)) (gSlC (gTm σ 9))) (Sl.mk (gSlA (gTm σ 10)) (gSlL (gTm σ 10)) (gSlC (gTm σ 10))) (gInt (gTm σ 13)) (Sl.mk (gSlA (gTm σ 14)) (gSlL (gTm σ 14)) (gSlC (gTm σ 14))) (Sl.mk (gSlA (gTm σ 24)) (gSlL (gTm σ 24)) (gSlC (gTm σ 24))) (Sl.mk (gSlA (gTm σ 28)) (gSlL (gTm σ 28)) (gSlC (gTm σ 28))) (gInt (gTm σ 29))) (λc x=>{ tm:=spT 208 0 [(3,.val (.int .i64 p3)),(9,.val c.t9.v),(10,.val c.t10.v),(13,.val (.int .i64 c.t13)),(14,.val c.t14.v),(24,.val c.t24.v),(28,.val c.t28.v),(29,.val (.int .i64 c.t29))],own:=spO 208 0 [(0,⟨0,.reg x.o0⟩)] }) I2 (.seq (.reg [A 137 2,A 138 2,A 139 2,A 140 2,A 0 24,A 142 20,⟨143,2,true⟩,A 144 2,A 145 0,A 146 20]) (.cond (.seq (.reg [A 8 9]) (.pubR 0 .leaf)) .leaf)) (.seq (.reg [A 148 2,A 149 2,A 0 24,A 147 2,A 151 0,A 152 0,A 30 2,A 31 2]) (.seq (.seq (.reg [A 153 2,A 154 2,A 155 2,A 156 2,A 0 24,A 158 20]) (.cond (.seq (.reg [A 8 9]) (.pubR 0 .leaf)) .leaf)) (.seq (.reg [A 160 2,A 161 2,A 0 24,A 159 2,A 163 0,A 164 0,A 32 2,A 33 2]) (.seq (.seq (.reg [A 165 2,A 166 0]) (.cond (.seq (.reg [A 8 9]) (.pubR 0 .leaf)) .leaf)) (.seq (.reg [A 168 2,A 169 2,A 0 24,A 167 2,A 171 0,A 172 0,A 32 2,A 33 2]) (.seq (.seq (.reg [A 173 2,A 174 0,A 175 2]) (.block (.loop C_waveportlaw07_TransformLaws_3 L_waveportlaw07_TransformLaws_3 (λσ=>C_waveportlaw07_TransformLaws_3.mk (Sl.mk (gSlA (gTm σ 10)) (gSlL (gTm σ 10)) (gSlC (gTm σ 10))) (gInt (gTm σ 13)) (Sl.mk (gSlA (gTm σ 14)) (gSlL (gTm σ 14)) (gSlC (gTm σ 14))) (Sl.mk (gSlA (gTm σ 32)) (gSlL (gTm σ 32)) (gSlC (gTm σ 32))) (gInt (gTm σ 33)) (gInt (gTm σ 174))) (λc x=>{ tm:=spT 208 0 [(3,.val (.int .i64 p3)),(10,.val c.t10.v),(13,.val (.int .i64 c.t13)),(14,.val c.t14.v),(32,.val c.t32.v),(33,.val (.int .i64 c.t33)),(174,.val (.int .i64 c.t174)),(175,.val (.int .i64 x.t175))],own:=spO 208 0 [(0,⟨0,.reg x.o0⟩)] }) I3 J3 (.seq (.reg [A 176 0]) (.seq (.cond .leaf .leaf) (.seq (.block (.seq (.reg [A 177 2,A 34 2]) (.draw [(0,A 178 2),(1,A 179 2),(2,A 180 2),(3,A 181 2),(4,A 182 7),(5,A 0 22),(6,A 184 2),(7,A 185 2),(8,A 186 2),(9,A 187 2),(10,A 188 12),(11,A 189 2),(12,A 190 0),(13,A 191 2),(14,A 192 12),(15,A 193 0),(16,A 194 2),(17,A 195 12),(18,A 196 7),(19,A 0 22),(20,A 0 24),(21,A 199 7),(22,A 0 23)] [0,0,0,0,12,28,0,0,0,0,768,0,3840,0,16128,32640,0,130944,262080,524224,1048572,2097151,4194303]))) (.reg [A 200 0,A 175 2]))))))) (.seq (.reg [A 201 2,A 202 2,A 203 2,A 0 24,⟨205,2,true⟩,A 0 24,A 207 20,A 8 2]) (.pubR 0 .leaf)))))))))))))))))))))))))
 (Eq.mpr (by kernel_rfl) (show waveportlaw07_TransformLaws_sk p0 p1 p2 p3 V R I0 I1 I2 I3 (λc w V=>∃x,waveportlaw07_TransformLaws_f0 p3 c w x/\I0 c x V) (λc w V=>∃x,waveportlaw07_TransformLaws_f1 p3 c w x/\I1 c x V) (λc w V=>∃x,waveportlaw07_TransformLaws_f2 p3 c w x/\I2 c x V) (λc w V=>∃x,waveportlaw07_TransformLaws_f3 p3 c w x/\I3 c x V) (λc w V y U=>∃x,waveportlaw07_TransformLaws_f3 p3 c w x/\I3 c x V/\J3 c x V<J3 c y U)from by
 have h:=Eq.mpr e h; unfold waveportlaw07_TransformLaws_sk at h ⊢; have Ee0:=λc w V (h:I0 c w V)=>(⟨w,⟨⟨rfl,rfl,rfl,rfl,rfl,rfl,rfl,trivial⟩,⟨rfl,trivial⟩⟩,h⟩:∃x,waveportlaw07_TransformLaws_f0 p3 c w x/\I0 c x V); have Ee1:=λc w V (h:I1 c w V)=>(⟨w,⟨⟨rfl,rfl,rfl,rfl,rfl,rfl,rfl,trivial⟩,⟨rfl,trivial⟩⟩,h⟩:∃x,waveportlaw07_TransformLaws_f1 p3 c w x/\I1 c x V); have Ee2:=λc w V (h:I2 c w V)=>(⟨w,⟨⟨rfl,rfl,rfl,rfl,rfl,rfl,rfl,rfl,trivial⟩,⟨rfl,trivial⟩⟩,h⟩:∃x,waveportlaw07_TransformLaws_f2 p3 c w x/\I2 c x V); have Ee3:=λc w V (h:I3 c w V)=>(⟨w,⟨⟨rfl,rfl,rfl,rfl,rfl,rfl,rfl,rfl,trivial⟩,⟨rfl,trivial⟩⟩,h⟩:∃x,waveportlaw07_TransformLaws_f3 p3 c w x/\I3 c x V); have Bb3:=λc w V y U (h:I3 c w V/\J3 c w V<J3 c y U)=>(⟨w,⟨⟨rfl,rfl,rfl,rfl,rfl,rfl,rfl,rfl,trivial⟩,⟨rfl,trivial⟩⟩,h⟩:∃x,waveportlaw07_TransformLaws_f3 p3 c w x/\I3 c x V/\J3 c x V<J3 c y U); exact(CallR.mono h (λ_ m1 V1 _ _ ⟨r1,r2,h108,h107⟩=>⟨r1,r2,h108,(CallR.mono h107 (λ_ m2 V2 _ _ ⟨r3,r4,h106,h105⟩=>⟨r3,r4,h106,(CallR.mono h105 (λ_ m3 V3 _ _ ⟨r5,r6,h104,h103⟩=>⟨r5,r6,h104,(CallR.mono h103 (λ_ m4 V4 _ _ ⟨r7,r8,h102,h101⟩=>⟨r7,r8,h102,⟨⟨λh12=>⟨(h101.1.1 h12).1,(λV6 h1 h2=>((h101.1.1 h12).2 V6 h1 h2))⟩,λh12=>⟨λh11=>⟨((h101.1.2 h12).1 h11).1,(λV7 h3 h4=>(((h101.1.2 h12).1 h11).2 V7 h3 h4))⟩,λh11=>⟨λh10=>⟨(((h101.1.2 h12).2 h11).1 h10).1,(λV8 h5 h6=>((((h101.1.2 h12).2 h11).1 h10).2 V8 h5 h6))⟩,λh10=>⟨λh9=>⟨((((h101.1.2 h12).2 h11).2 h10).1 h9).1,(λV9 h7 h8=>(((((h101.1.2 h12).2 h11).2 h10).1 h9).2 V9 h7 h8))⟩,λh9=>(Ee0 _ _ _ ((((h101.1.2 h12).2 h11).2 h10).2 h9))⟩⟩⟩⟩,λx1 V5 h99 h100=>(CallR.mono (h101.2 x1 V5 h99 h100) (λ_ m5 V10 _ _ ⟨r9,h98,h97⟩=>⟨r9,h98,(CallR.mono h97 (λ_ m6 V11 _ _ ⟨r10,r11,h96,h95⟩=>⟨r10,r11,h96,(CallR.mono h95 (λ_ m7 V12 _ _ ⟨r12,h94,h93⟩=>⟨r12,h94,(CallR.mono h93 (λ_ m8 V13 _ _ ⟨r13,h92,h91⟩=>⟨r13,h92,⟨λh90=>⟨(h91.1 h90).1,(λV14 h13 h14=>((h91.1 h90).2 V14 h13 h14))⟩,λh90=>(CallR.mono (h91.2 h90) (λ_ m9 V15 _ _ ⟨r14,r15,h89,h88⟩=>⟨r14,r15,h89,(CallR.mono h88 (λ_ m10 V16 _ _ ⟨r16,r17,h87,h86⟩=>⟨r16,r17,h87,⟨⟨λh29=>⟨(h86.1.1 h29).1,(λV18 h15 h16=>((h86.1.1 h29).2 V18 h15 h16))⟩,λh29=>⟨λh28=>⟨((h86.1.2 h29).1 h28).1,(λV19 h17 h18=>(((h86.1.2 h29).1 h28).2 V19 h17 h18))⟩,λh28=>(CallR.mono ((h86.1.2 h29).2 h28) (λ_ m11 V20 _ _ ⟨r18,h27,h26⟩=>⟨r18,h27,(CallR.mono h26 (λ_ m12 V21 _ _ ⟨r19,h25,h24⟩=>⟨r19,h25,(CallR.mono h24 (λ_ m13 V22 _ _ ⟨r20,h23,h22⟩=>⟨r20,h23,⟨λh21=>⟨(h22.1 h21).1,(λV23 h19 h20=>((h22.1 h21).2 V23 h19 h20))⟩,λh21=>(Ee1 _ _ _ (h22.2 h21))⟩⟩))⟩))⟩))⟩⟩,λx3 V17 h84 h85=>(CallR.mono (h86.2 x3 V17 h84 h85) (λ_ m14 V24 _ _ ⟨r21,r22,h83,h82⟩=>⟨r21,r22,h83,(CallR.mono h82 (λ_ m15 V25 _ _ ⟨r23,r24,h81,h80⟩=>⟨r23,r24,h81,(CallR.mono h80 (λ_ m16 V26 _ _ ⟨r25,r26,h79,h78⟩=>⟨r25,r26,h79,⟨(CallR.mono h78.1 (λ_ m17 V28 _ _ ⟨r27,h37,h36⟩=>⟨r27,h37,⟨λh35=>⟨(h36.1 h35).1,(λV29 h30 h31=>((h36.1 h35).2 V29 h30 h31))⟩,λh35=>⟨λh34=>⟨((h36.2 h35).1 h34).1,(λV30 h32 h33=>(((h36.2 h35).1 h34).2 V30 h32 h33))⟩,λh34=>(Ee2 _ _ _ ((h36.2 h35).2 h34))⟩⟩⟩)),λx5 V27 h76 h77=>(CallR.mono (h78.2 x5 V27 h76 h77) (λ_ m18 V31 _ _ ⟨r28,r29,h75,h74⟩=>⟨r28,r29,h75,(CallR.mono h74 (λ_ m19 V32 _ _ ⟨r30,h73,h72⟩=>⟨r30,h73,⟨λh71=>⟨(h72.1 h71).1,(λV33 h38 h39=>((h72.1 h71).2 V33 h38 h39))⟩,λh71=>(CallR.mono (h72.2 h71) (λ_ m20 V34 _ _ ⟨r31,r32,h70,h69⟩=>⟨r31,r32,h70,⟨λh68=>⟨(h69.1 h68).1,(λV35 h40 h41=>((h69.1 h68).2 V35 h40 h41))⟩,λh68=>(CallR.mono (h69.2 h68) (λ_ m21 V36 _ _ ⟨r33,r34,h67,h66⟩=>⟨r33,r34,h67,⟨(Ee3 _ _ _ h66.1),λx8 V37 h64 h65=>⟨λh63=>⟨((h66.2 x8 V37 h64 h65).1 h63).1,(match ((h66.2 x8 V37 h64 h65).1 h63).2 with|⟨x9,h52,h53,h51⟩=>⟨x9,h52,h53,⟨h51.1,⟨h51.2.1,⟨h51.2.2.1,⟨h51.2.2.2.1,(match h51.2.2.2.2 with|⟨x10,h49,h50,h48⟩=>⟨x10,h49,h50,(CallR.mono h48 (λ_ m22 V38 _ _ ⟨r35,h47,h46⟩=>⟨r35,h47,⟨h46.1,(match h46.2 with|⟨b13,c1,l13,h43,h44,h45,h42⟩=>⟨b13,c1,l13,h43,h44,h45,(Bb3 _ _ _ _ _ h42)⟩)⟩⟩))⟩)⟩⟩⟩⟩⟩)⟩,λh63=>(CallR.mono ((h66.2 x8 V37 h64 h65).2 h63) (λ_ m23 V39 _ _ ⟨r36,h62,h61⟩=>⟨r36,h62,⟨λh60=>(CallR.mono (h61.1 h60) (λ_ m24 V40 _ _ ⟨r37,h57,h56⟩=>⟨r37,h57,⟨h56.1,(λV41 h54 h55=>(h56.2 V41 h54 h55))⟩⟩)),λh60=>⟨(h61.2 h60).1,(λV42 h58 h59=>((h61.2 h60).2 V42 h58 h59))⟩⟩⟩))⟩⟩⟩))⟩⟩))⟩⟩))⟩))⟩⟩))⟩))⟩))⟩⟩))⟩))⟩⟩))⟩))⟩))⟩))⟩⟩))⟩))⟩))⟩))))
theorem waveportlaw07_TransformLaws_vc:type_of% (λp0 p1 p2 p3 V R I0 I1 I2 I3 J3=>waveportlaw07_TransformLaws_v0 p0 p1 p2 p3 V R I0 I1 I2 I3 J3 (waveportlaw07_TransformLaws_sk.eq_1 ..)):=λp0 p1 p2 p3 V R I0 I1 I2 I3 J3=>waveportlaw07_TransformLaws_v0 p0 p1 p2 p3 V R I0 I1 I2 I3 J3 (waveportlaw07_TransformLaws_sk.eq_1 ..)
