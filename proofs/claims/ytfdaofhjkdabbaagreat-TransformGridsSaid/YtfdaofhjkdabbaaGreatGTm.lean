/- Part of the proof; it has the parts GTm. -/
import Derived.Test.YtfdaofhjkdabbaaGreatGTl
set_option maxRecDepth 100000
set_option maxHeartbeats 4000000
namespace Go.Proofs.YtfdaofhjkdabbaaGreat
open Go Go.Vc Go.Proofs
open Go.IntKind (i8 i16 i32 i64 u8 u16 u32 u64)
structure L_waveportlaw07_TransformGrids_0 where
 u:Unit
structure L_waveportlaw07_TransformGrids_1 where
 t11:Bool
 t49:Int
structure L_waveportlaw07_TransformGrids_2 where
 u:Unit
structure C_waveportlaw07_TransformGrids_2 where
 t11:Bool
 o14_0:Sl
structure L_waveportlaw07_TransformGrids_3 where
 o16:GridV
structure C_waveportlaw07_TransformGrids_3 where
 o14_0:Sl
structure L_waveportlaw07_TransformGrids_4 where
 u:Unit
structure C_waveportlaw07_TransformGrids_4 where
 o14_0:Sl
 o16_0:Sl
structure L_waveportlaw07_TransformGrids_5 where
 t17:Bool
structure C_waveportlaw07_TransformGrids_5 where
 o14_0:Sl
 o16_0:Sl
structure L_waveportlaw07_TransformGrids_6 where
 u:Unit
structure C_waveportlaw07_TransformGrids_6 where
 o14_0:Sl
 o16_0:Sl
def waveportlaw07_TransformGrids_f0 (p0:Sl) (p1:Sl) (p2:Sl) (p3:Int) (p4:Int) (_c:Unit) (_w _x:L_waveportlaw07_TransformGrids_0):Prop:=(Q1 (.val (p0.v))∧Q1 (.val (p1.v))∧Q1 (.val (p2.v))∧Q1 (.val (.int .i64 p3))∧Q1 (.val (.int .i64 p4))∧True)∧(True)
def waveportlaw07_TransformGrids_f1 (p0:Sl) (p1:Sl) (p2:Sl) (p3:Int) (p4:Int) (_c:Unit) (w x:L_waveportlaw07_TransformGrids_1):Prop:=(Q1 (.val (p0.v))∧Q1 (.val (p1.v))∧Q1 (.val (p2.v))∧Q1 (.val (.int .i64 p3))∧Q1 (.val (.int .i64 p4))∧E2 (.val (.bool w.t11)) (.val (.bool x.t11))∧Q1 (.val (p0.v))∧Q1 (.val (.int .i64 (p0.len:Int)))∧E2 (.val (.int .i64 w.t49)) (.val (.int .i64 x.t49))∧True)∧(True)
def waveportlaw07_TransformGrids_f2 (p0:Sl) (p1:Sl) (p2:Sl) (p3:Int) (p4:Int) (c:C_waveportlaw07_TransformGrids_2) (_w _x:L_waveportlaw07_TransformGrids_2):Prop:=(Q1 (.val (p0.v))∧Q1 (.val (p1.v))∧Q1 (.val (p2.v))∧Q1 (.val (.int .i64 p3))∧Q1 (.val (.int .i64 p4))∧Q1 (.val (.bool c.t11))∧Q1 (.own 14 0)∧True)∧(O2 ⟨27,.fixed [.val (c.o14_0.v)]⟩ ⟨27,.fixed [.val (c.o14_0.v)]⟩∧True)
def waveportlaw07_TransformGrids_f3 (p1:Sl) (p2:Sl) (p3:Int) (p4:Int) (c:C_waveportlaw07_TransformGrids_3) (w x:L_waveportlaw07_TransformGrids_3):Prop:=(Q1 (.val (p1.v))∧Q1 (.val (p2.v))∧Q1 (.val (.int .i64 p3))∧Q1 (.val (.int .i64 p4))∧Q1 (.own 14 0)∧Q1 (.own 16 0)∧True)∧(O2 ⟨27,.fixed [.val (c.o14_0.v)]⟩ ⟨27,.fixed [.val (c.o14_0.v)]⟩∧O2 ⟨40,.fixed [.val (w.o16.rows.v)]⟩ ⟨40,.fixed [.val (x.o16.rows.v)]⟩∧True)
def waveportlaw07_TransformGrids_f4 (p1:Sl) (p2:Sl) (p3:Int) (p4:Int) (c:C_waveportlaw07_TransformGrids_4) (_w _x:L_waveportlaw07_TransformGrids_4):Prop:=(Q1 (.val (p1.v))∧Q1 (.val (p2.v))∧Q1 (.val (.int .i64 p3))∧Q1 (.val (.int .i64 p4))∧Q1 (.own 14 0)∧Q1 (.own 16 0)∧True)∧(O2 ⟨27,.fixed [.val (c.o14_0.v)]⟩ ⟨27,.fixed [.val (c.o14_0.v)]⟩∧O2 ⟨40,.fixed [.val (c.o16_0.v)]⟩ ⟨40,.fixed [.val (c.o16_0.v)]⟩∧True)
def waveportlaw07_TransformGrids_f5 (p1:Sl) (p2:Sl) (p3:Int) (p4:Int) (c:C_waveportlaw07_TransformGrids_5) (w x:L_waveportlaw07_TransformGrids_5):Prop:=(Q1 (.val (p1.v))∧Q1 (.val (p2.v))∧Q1 (.val (.int .i64 p3))∧Q1 (.val (.int .i64 p4))∧Q1 (.own 14 0)∧Q1 (.own 16 0)∧E2 (.val (.bool w.t17)) (.val (.bool x.t17))∧True)∧(O2 ⟨27,.fixed [.val (c.o14_0.v)]⟩ ⟨27,.fixed [.val (c.o14_0.v)]⟩∧O2 ⟨40,.fixed [.val (c.o16_0.v)]⟩ ⟨40,.fixed [.val (c.o16_0.v)]⟩∧True)
def waveportlaw07_TransformGrids_f6 (p1:Sl) (p2:Sl) (c:C_waveportlaw07_TransformGrids_6) (_w _x:L_waveportlaw07_TransformGrids_6):Prop:=(Q1 (.val (p1.v))∧Q1 (.val (p2.v))∧Q1 (.own 14 0)∧Q1 (.own 16 0)∧True)∧(O2 ⟨27,.fixed [.val (c.o14_0.v)]⟩ ⟨27,.fixed [.val (c.o14_0.v)]⟩∧O2 ⟨40,.fixed [.val (c.o16_0.v)]⟩ ⟨40,.fixed [.val (c.o16_0.v)]⟩∧True)
def waveportlaw07_TransformGrids_sk (p0:Sl) (p1:Sl) (p2:Sl) (p3:Int) (p4:Int) (V:View) (R:Value→View→Prop) (I0:Unit→L_waveportlaw07_TransformGrids_0→View→Prop) (I1:Unit→L_waveportlaw07_TransformGrids_1→View→Prop) (I2:C_waveportlaw07_TransformGrids_2→L_waveportlaw07_TransformGrids_2→View→Prop) (I3:C_waveportlaw07_TransformGrids_3→L_waveportlaw07_TransformGrids_3→View→Prop) (I4:C_waveportlaw07_TransformGrids_4→L_waveportlaw07_TransformGrids_4→View→Prop) (I5:C_waveportlaw07_TransformGrids_5→L_waveportlaw07_TransformGrids_5→View→Prop) (I6:C_waveportlaw07_TransformGrids_6→L_waveportlaw07_TransformGrids_6→View→Prop) (E0:Unit→L_waveportlaw07_TransformGrids_0→View→Prop) (E1:Unit→L_waveportlaw07_TransformGrids_1→View→Prop) (B1:Unit→L_waveportlaw07_TransformGrids_1→View→L_waveportlaw07_TransformGrids_1→View→Prop) (E2:C_waveportlaw07_TransformGrids_2→L_waveportlaw07_TransformGrids_2→View→Prop) (E3:C_waveportlaw07_TransformGrids_3→L_waveportlaw07_TransformGrids_3→View→Prop) (E4:C_waveportlaw07_TransformGrids_4→L_waveportlaw07_TransformGrids_4→View→Prop) (E5:C_waveportlaw07_TransformGrids_5→L_waveportlaw07_TransformGrids_5→View→Prop) (E6:C_waveportlaw07_TransformGrids_6→L_waveportlaw07_TransformGrids_6→View→Prop):Prop :=
 (((decide (((p0.len:Int):Int)>5))=true →
 CallV Tryz.prog 12 #[] V fun v V2=>∃r1:Bool,v = .bool r1 ∧
 R (.bool r1) V2) ∧
 ((decide (((p0.len:Int):Int)>5))=false →
 ((decide (((p1.len:Int):Int)>9))=true →
 CallV Tryz.prog 12 #[] V fun v V3=>∃r2:Bool,v = .bool r2 ∧
 R (.bool r2) V3) ∧
 ((decide (((p1.len:Int):Int)>9))=false →
 ((decide (((p2.len:Int):Int)>9))=true →
 CallV Tryz.prog 12 #[] V fun v V4=>∃r3:Bool,v = .bool r3 ∧
 R (.bool r3) V4) ∧
 ((decide (((p2.len:Int):Int)>9))=false →
 E0 () (L_waveportlaw07_TransformGrids_0.mk ()) V)))) ∧
 (∀(x1:L_waveportlaw07_TransformGrids_0) (V1:View),View.le V V1→I0 () x1 V1 →
 E1 () (L_waveportlaw07_TransformGrids_1.mk (decide (((p0.len:Int):Int)>0)) 0) V1 ∧
 (∀(x4:L_waveportlaw07_TransformGrids_1) (V5:View),View.le V1 V5→I1 () x4 V5 →
 ((decide ((x4.t49:Int)<(p0.len:Int)))=true →
 ((0:Int)≤x4.t49∧(x4.t49:Int)<(p0.len:Nat)∧Option.isSome p0.a=true) ∧
 ∃x5:Sl,View.load V5 (Option.map (fun q=>Addr.add q (Int.toNat x4.t49*1)) p0.a)=some (x5.v) ∧
 ((decide (((x5.len:Int):Int)>6))=true →
 CallV Tryz.prog 12 #[] V5 fun v V6=>∃r4:Bool,v = .bool r4 ∧
 R (.bool r4) V6) ∧
 ((decide (((x5.len:Int):Int)>6))=false →
 (x4.t11=true →
 ((decide (((x5.len:Int):Int)>0))=true →
 ((0:Int)≤0∧(0:Int)<(p0.len:Nat)∧Option.isSome p0.a=true) ∧
 ∃x6:Sl,View.load V5 (Option.map (fun q=>Addr.add q (Int.toNat 0*1)) p0.a)=some (x6.v) ∧
 B1 () (L_waveportlaw07_TransformGrids_1.mk (((x5.len:Int):Int)==(x6.len:Int)) (i64.wrap (x4.t49+1))) V5 x4 V5) ∧
 ((decide (((x5.len:Int):Int)>0))=false →
 B1 () (L_waveportlaw07_TransformGrids_1.mk false (i64.wrap (x4.t49+1))) V5 x4 V5)) ∧
 (x4.t11=false →
 B1 () (L_waveportlaw07_TransformGrids_1.mk false (i64.wrap (x4.t49+1))) V5 x4 V5))) ∧
 ((decide ((x4.t49:Int)<(p0.len:Int)))=false →
 CallV Tryz.prog 14 #[p0.v] V5 fun v V7=>∃r5:Sl,v=r5.v ∧
 CallV Tryz.prog 13 #[r5.v] V7 fun v V8=>∃(r6:GridV) (r7:Int),v = .tuple #[r6.val,.int .i64 r7] ∧
 (((!(((r7:Int)==0)==x4.t11))=true →
 R (.bool false) V8) ∧
 ((!(((r7:Int)==0)==x4.t11))=false →
 ((!x4.t11)=true →
 (((r7:Int) != 4)=true →
 R (.bool false) V8) ∧
 (((r7:Int) != 4)=false →
 E2 (C_waveportlaw07_TransformGrids_2.mk x4.t11 r6.rows) (L_waveportlaw07_TransformGrids_2.mk ()) V8)) ∧
 ((!x4.t11)=false →
 E2 (C_waveportlaw07_TransformGrids_2.mk x4.t11 r6.rows) (L_waveportlaw07_TransformGrids_2.mk ()) V8))) ∧
 (∀(x10:L_waveportlaw07_TransformGrids_2) (V9:View),View.le V8 V9→I2 (C_waveportlaw07_TransformGrids_2.mk x4.t11 r6.rows) x10 V9 →
 ((x4.t11=true →
 CallV Tryz.prog 15 #[p0.v] V9 fun v V11=>∃r8:Sl,v=r8.v ∧
 E3 (C_waveportlaw07_TransformGrids_3.mk r6.rows) (L_waveportlaw07_TransformGrids_3.mk (GridV.mk r8)) V11) ∧
 (x4.t11=false →
 E3 (C_waveportlaw07_TransformGrids_3.mk r6.rows) (L_waveportlaw07_TransformGrids_3.mk (GridV.mk (Sl.mk none 0 0))) V9)) ∧
 (∀(x13:L_waveportlaw07_TransformGrids_3) (V10:View),View.le V9 V10→I3 (C_waveportlaw07_TransformGrids_3.mk r6.rows) x13 V10 →
 (CallV Tryz.prog 16 #[r6.val,x13.o16.val] V10 fun v V13=>∃r9:Bool,v = .bool r9 ∧
 ((!r9)=true →
 R (.bool false) V13) ∧
 ((!r9)=false →
 CallV Tryz.prog 17 #[r6.val] V13 fun v V14=>∃r10:GridV,v=r10.val ∧
 CallV Tryz.prog 18 #[x13.o16.val] V14 fun v V15=>∃r11:GridV,v=r11.val ∧
 CallV Tryz.prog 16 #[r10.val,r11.val] V15 fun v V16=>∃r12:Bool,v = .bool r12 ∧
 ((!r12)=true →
 R (.bool false) V16) ∧
 ((!r12)=false →
 E4 (C_waveportlaw07_TransformGrids_4.mk r6.rows x13.o16.rows) (L_waveportlaw07_TransformGrids_4.mk ()) V16))) ∧
 (∀(x16:L_waveportlaw07_TransformGrids_4) (V12:View),View.le V10 V12→I4 (C_waveportlaw07_TransformGrids_4.mk r6.rows x13.o16.rows) x16 V12 →
 (((decide ((p3:Int)≥0))=true →
 E5 (C_waveportlaw07_TransformGrids_5.mk r6.rows x13.o16.rows) (L_waveportlaw07_TransformGrids_5.mk (decide ((p3:Int)<(x13.o16.rows.len:Int)))) V12) ∧
 ((decide ((p3:Int)≥0))=false →
 E5 (C_waveportlaw07_TransformGrids_5.mk r6.rows x13.o16.rows) (L_waveportlaw07_TransformGrids_5.mk false) V12)) ∧
 (∀(x18:L_waveportlaw07_TransformGrids_5) (V17:View),View.le V12 V17→I5 (C_waveportlaw07_TransformGrids_5.mk r6.rows x13.o16.rows) x18 V17 →
 CallV Tryz.prog 19 #[r6.val,.int .i64 p3] V17 fun v V18=>∃(r13:Sl) (r14:Int),v = .tuple #[r13.v,.int .i64 r14] ∧
 CallV Tryz.prog 20 #[r6.val,.int .i64 p3,.int .i64 p4] V18 fun v V19=>∃(r15:NumV) (r16:Int),v = .tuple #[r15.val,.int .i64 r16] ∧
 (((!(((r14:Int)==0)==x18.t17))=true →
 R (.bool false) V19) ∧
 ((!(((r14:Int)==0)==x18.t17))=false →
 (x18.t17=true →
 ((decide ((p4:Int)≥0))=true →
 ((0:Int)≤0∧(0:Int)<(x13.o16.rows.len:Nat)∧Option.isSome x13.o16.rows.a=true) ∧
 ∃x22:Sl,View.load V19 (Option.map (fun q=>Addr.add q (Int.toNat 0*1)) x13.o16.rows.a)=some (x22.v) ∧
 ((!(((r16:Int)==0)==(decide ((p4:Int)<(x22.len:Int)))))=true →
 R (.bool false) V19) ∧
 ((!(((r16:Int)==0)==(decide ((p4:Int)<(x22.len:Int)))))=false →
 (((r14:Int) != 0)=true →
 (((r14:Int) != 1)=true →
 R (.bool false) V19) ∧
 (((r14:Int) != 1)=false →
 (((r16:Int) != 0)=true →
 (((r16:Int) != 1)=true →
 R (.bool false) V19) ∧
 (((r16:Int) != 1)=false →
 E6 (C_waveportlaw07_TransformGrids_6.mk r6.rows x13.o16.rows) (L_waveportlaw07_TransformGrids_6.mk ()) V19)) ∧
 (((r16:Int) != 0)=false →
 E6 (C_waveportlaw07_TransformGrids_6.mk r6.rows x13.o16.rows) (L_waveportlaw07_TransformGrids_6.mk ()) V19))) ∧
 (((r14:Int) != 0)=false →
 (((r16:Int) != 0)=true →
 (((r16:Int) != 1)=true →
 R (.bool false) V19) ∧
 (((r16:Int) != 1)=false →
 E6 (C_waveportlaw07_TransformGrids_6.mk r6.rows x13.o16.rows) (L_waveportlaw07_TransformGrids_6.mk ()) V19)) ∧
 (((r16:Int) != 0)=false →
 E6 (C_waveportlaw07_TransformGrids_6.mk r6.rows x13.o16.rows) (L_waveportlaw07_TransformGrids_6.mk ()) V19)))) ∧
 ((decide ((p4:Int)≥0))=false →
 ((!(((r16:Int)==0)==false))=true →
 R (.bool false) V19) ∧
 ((!(((r16:Int)==0)==false))=false →
 (((r14:Int) != 0)=true →
 (((r14:Int) != 1)=true →
 R (.bool false) V19) ∧
 (((r14:Int) != 1)=false →
 (((r16:Int) != 0)=true →
 (((r16:Int) != 1)=true →
 R (.bool false) V19) ∧
 (((r16:Int) != 1)=false →
 E6 (C_waveportlaw07_TransformGrids_6.mk r6.rows x13.o16.rows) (L_waveportlaw07_TransformGrids_6.mk ()) V19)) ∧
 (((r16:Int) != 0)=false →
 E6 (C_waveportlaw07_TransformGrids_6.mk r6.rows x13.o16.rows) (L_waveportlaw07_TransformGrids_6.mk ()) V19))) ∧
 (((r14:Int) != 0)=false →
 (((r16:Int) != 0)=true →
 (((r16:Int) != 1)=true →
 R (.bool false) V19) ∧
 (((r16:Int) != 1)=false →
 E6 (C_waveportlaw07_TransformGrids_6.mk r6.rows x13.o16.rows) (L_waveportlaw07_TransformGrids_6.mk ()) V19)) ∧
 (((r16:Int) != 0)=false →
 E6 (C_waveportlaw07_TransformGrids_6.mk r6.rows x13.o16.rows) (L_waveportlaw07_TransformGrids_6.mk ()) V19))))) ∧
 (x18.t17=false →
 ((!(((r16:Int)==0)==false))=true →
 R (.bool false) V19) ∧
 ((!(((r16:Int)==0)==false))=false →
 (((r14:Int) != 0)=true →
 (((r14:Int) != 1)=true →
 R (.bool false) V19) ∧
 (((r14:Int) != 1)=false →
 (((r16:Int) != 0)=true →
 (((r16:Int) != 1)=true →
 R (.bool false) V19) ∧
 (((r16:Int) != 1)=false →
 E6 (C_waveportlaw07_TransformGrids_6.mk r6.rows x13.o16.rows) (L_waveportlaw07_TransformGrids_6.mk ()) V19)) ∧
 (((r16:Int) != 0)=false →
 E6 (C_waveportlaw07_TransformGrids_6.mk r6.rows x13.o16.rows) (L_waveportlaw07_TransformGrids_6.mk ()) V19))) ∧
 (((r14:Int) != 0)=false →
 (((r16:Int) != 0)=true →
 (((r16:Int) != 1)=true →
 R (.bool false) V19) ∧
 (((r16:Int) != 1)=false →
 E6 (C_waveportlaw07_TransformGrids_6.mk r6.rows x13.o16.rows) (L_waveportlaw07_TransformGrids_6.mk ()) V19)) ∧
 (((r16:Int) != 0)=false →
 E6 (C_waveportlaw07_TransformGrids_6.mk r6.rows x13.o16.rows) (L_waveportlaw07_TransformGrids_6.mk ()) V19)))))) ∧
 (∀(x21:L_waveportlaw07_TransformGrids_6) (V20:View),View.le V19 V20→I6 (C_waveportlaw07_TransformGrids_6.mk r6.rows x13.o16.rows) x21 V20 →
 CallV Tryz.prog 21 #[p1.v] V20 fun v V21=>∃r17:Sl,v=r17.v ∧
 CallV Tryz.prog 21 #[p2.v] V21 fun v V22=>∃r18:Sl,v=r18.v ∧
 CallV Tryz.prog 23 #[r17.v] V22 fun v V23=>∃r19:Sl,v=r19.v ∧
 CallV Tryz.prog 23 #[r18.v] V23 fun v V24=>∃r20:Sl,v=r20.v ∧
 CallV Tryz.prog 22 #[r6.val,r19.v,r20.v] V24 fun v V25=>∃(r21:GridV) (r22:Int),v = .tuple #[r21.val,.int .i64 r22] ∧
 CallV Tryz.prog 25 #[r17.v] V25 fun v V26=>∃r23:Sl,v=r23.v ∧
 CallV Tryz.prog 25 #[r18.v] V26 fun v V27=>∃r24:Sl,v=r24.v ∧
 CallV Tryz.prog 24 #[x13.o16.val,r23.v,r24.v] V27 fun v V28=>∃(r25:GridV) (r26:Int),v = .tuple #[r25.val,.int .i64 r26] ∧
 CallV Tryz.prog 23 #[r17.v] V28 fun v V29=>∃r27:Sl,v=r27.v ∧
 CallV Tryz.prog 23 #[r18.v] V29 fun v V30=>∃r28:Sl,v=r28.v ∧
 CallV Tryz.prog 26 #[r6.val,r27.v,r28.v] V30 fun v V31=>∃(r29:GridV) (r30:Int),v = .tuple #[r29.val,.int .i64 r30] ∧
 CallV Tryz.prog 25 #[r17.v] V31 fun v V32=>∃r31:Sl,v=r31.v ∧
 CallV Tryz.prog 25 #[r18.v] V32 fun v V33=>∃r32:Sl,v=r32.v ∧
 CallV Tryz.prog 27 #[x13.o16.val,r31.v,r32.v] V33 fun v V34=>∃(r33:GridV) (r34:Int),v = .tuple #[r33.val,.int .i64 r34] ∧
 (((r22:Int)==r26)=true →
 (((r30:Int)==r34)=true →
 CallV Tryz.prog 16 #[r21.val,r25.val] V34 fun v V35=>∃r35:Bool,v = .bool r35 ∧
 (r35=true →
 CallV Tryz.prog 16 #[r29.val,r33.val] V35 fun v V36=>∃r36:Bool,v = .bool r36 ∧
 (r36=true →
 CallV Tryz.prog 12 #[] V36 fun v V37=>∃r37:Bool,v = .bool r37 ∧
 R (.bool r37) V37) ∧
 (r36=false →
 R (.bool false) V36)) ∧
 (r35=false →
 R (.bool false) V35)) ∧
 (((r30:Int)==r34)=false →
 R (.bool false) V34)) ∧
 (((r22:Int)==r26)=false →
 R (.bool false) V34)))))))))
theorem waveportlaw07_TransformGrids_v0 (p0:Sl) (p1:Sl) (p2:Sl) (p3:Int) (p4:Int) (V:View) (R:Value→View→Prop) (I0:Unit→L_waveportlaw07_TransformGrids_0→View→Prop) (I1:Unit→L_waveportlaw07_TransformGrids_1→View→Prop) (J1:Unit→L_waveportlaw07_TransformGrids_1→View→Nat) (I2:C_waveportlaw07_TransformGrids_2→L_waveportlaw07_TransformGrids_2→View→Prop) (I3:C_waveportlaw07_TransformGrids_3→L_waveportlaw07_TransformGrids_3→View→Prop) (I4:C_waveportlaw07_TransformGrids_4→L_waveportlaw07_TransformGrids_4→View→Prop) (I5:C_waveportlaw07_TransformGrids_5→L_waveportlaw07_TransformGrids_5→View→Prop) (I6:C_waveportlaw07_TransformGrids_6→L_waveportlaw07_TransformGrids_6→View→Prop) {X:Prop} (e:waveportlaw07_TransformGrids_sk p0 p1 p2 p3 p4 V R I0 I1 I2 I3 I4 I5 I6 I0 I1 (fun c w V x U=>I1 c w V∧J1 c w V<J1 c x U) I2 I3 I4 I5 I6=X) (h:X) :
 CallV Tryz.prog 3 #[p0.v,p1.v,p2.v,.int .i64 p3,.int .i64 p4] V R :=
 calls_of_vc (Shp:=Shp) hmixed Tryz.func3 (c:=Tryz.f3.body.getD .skip) (args:=[p0.v,p1.v,p2.v,.int .i64 p3,.int .i64 p4]) (by kernel_rfl)
 (.seq (.reg [A 10 9]) (.cut Unit L_waveportlaw07_TransformGrids_0 (fun _=>()) (fun c x=>{ tm:=spT 230 0 [(0,.val (p0.v)),(1,.val (p1.v)),(2,.val (p2.v)),(3,.val (.int .i64 p3)),(4,.val (.int .i64 p4))],own:=spO 230 0 [] }) I0 (.seq (.reg [A 30 2,A 31 0,A 32 0,⟨33,2,true⟩,A 34 2,A 35 0,A 36 0,A 37 20,⟨38,2,true⟩,A 39 2,A 40 0,A 41 0,A 42 20]) (.cond (.seq (.reg [A 43 10,A 10 2]) .leaf) .leaf)) (.seq (.reg [A 44 2,A 45 0,A 46 0,A 11 0]) (.seq (.seq (.reg [A 47 2,A 48 0,A 49 2]) (.block (.loop Unit L_waveportlaw07_TransformGrids_1 (fun _=>()) (fun c x=>{ tm:=spT 230 0 [(0,.val (p0.v)),(1,.val (p1.v)),(2,.val (p2.v)),(3,.val (.int .i64 p3)),(4,.val (.int .i64 p4)),(11,.val (.bool x.t11)),(47,.val (p0.v)),(48,.val (.int .i64 (p0.len:Int))),(49,.val (.int .i64 x.t49))],own:=spO 230 0 [] }) I1 J1 (.seq (.reg [A 50 0]) (.seq (.cond .leaf .leaf) (.seq (.block (.seq (.reg [A 51 7,A 52 5,A 13 2]) (.seq (.seq (.reg [A 53 2,A 54 0,A 55 0]) (.cond (.seq (.reg [A 56 10,A 10 2]) .leaf) .leaf)) (.reg [A 57 2,⟨58,2,true⟩,A 59 2,A 60 0,A 61 0,A 62 20,⟨63,2,true⟩,A 64 2,A 65 0,A 66 2,A 67 7,A 68 5,A 69 0,A 70 0,A 71 20,A 11 0])))) (.reg [A 72 0,A 49 2]))))))) (.seq (.reg [A 74 2,A 75 10,A 76 10,A 73 2,A 77 0,A 78 0,A 14 3,A 14 6,A 15 2]) (.cut C_waveportlaw07_TransformGrids_2 L_waveportlaw07_TransformGrids_2 (fun σ=>C_waveportlaw07_TransformGrids_2.mk (gBool (gTm σ 11)) (Sl.mk (gSlA (gOwn σ 14 0)) (gSlL (gOwn σ 14 0)) (gSlC (gOwn σ 14 0)))) (fun c x=>{ tm:=spT 230 0 [(0,.val (p0.v)),(1,.val (p1.v)),(2,.val (p2.v)),(3,.val (.int .i64 p3)),(4,.val (.int .i64 p4)),(11,.val (.bool c.t11)),(14,.own 14 0)],own:=spO 230 0 [(14,⟨27,.fixed [.val (c.o14_0.v)]⟩)] }) I2 (.seq (.reg [A 79 2,A 80 0,A 81 2,A 82 0,⟨83,2,true⟩,A 84 2,A 85 20,⟨86,2,true⟩,A 87 2,A 88 0,A 89 20,A 90 20]) (.cond (.seq (.reg [A 10 9]) .leaf) .leaf)) (.seq (.reg [A 91 0,A 16 3,A 16 6]) (.cut C_waveportlaw07_TransformGrids_3 L_waveportlaw07_TransformGrids_3 (fun σ=>C_waveportlaw07_TransformGrids_3.mk (Sl.mk (gSlA (gOwn σ 14 0)) (gSlL (gOwn σ 14 0)) (gSlC (gOwn σ 14 0)))) (fun c x=>{ tm:=spT 230 0 [(1,.val (p1.v)),(2,.val (p2.v)),(3,.val (.int .i64 p3)),(4,.val (.int .i64 p4)),(14,.own 14 0),(16,.own 16 0)],own:=spO 230 0 [(14,⟨27,.fixed [.val (c.o14_0.v)]⟩),(16,⟨40,.fixed [.val (x.o16.rows.v)]⟩)] }) I3 (.seq (.reg [A 92 2]) (.cond (.reg [A 93 2,A 94 10,A 95 0,A 16 6]) .leaf)) (.cut C_waveportlaw07_TransformGrids_4 L_waveportlaw07_TransformGrids_4 (fun σ=>C_waveportlaw07_TransformGrids_4.mk (Sl.mk (gSlA (gOwn σ 14 0)) (gSlL (gOwn σ 14 0)) (gSlC (gOwn σ 14 0))) (Sl.mk (gSlA (gOwn σ 16 0)) (gSlL (gOwn σ 16 0)) (gSlC (gOwn σ 16 0)))) (fun c x=>{ tm:=spT 230 0 [(1,.val (p1.v)),(2,.val (p2.v)),(3,.val (.int .i64 p3)),(4,.val (.int .i64 p4)),(14,.own 14 0),(16,.own 16 0)],own:=spO 230 0 [(14,⟨27,.fixed [.val (c.o14_0.v)]⟩),(16,⟨40,.fixed [.val (c.o16_0.v)]⟩)] }) I4 (.seq (.draw [(0,A 14 4),(1,A 16 4),(2,A 98 10),(3,A 99 20),(4,⟨100,2,true⟩),(5,A 14 4),(7,A 16 4),(6,A 102 10),(8,A 104 10),(9,A 105 10),(10,A 106 20),(11,A 107 20)] [0,0,3,7,15,31,63,31,255,511,1023,2047]) (.cond (.seq (.reg [A 10 9]) .leaf) .leaf)) (.cut C_waveportlaw07_TransformGrids_5 L_waveportlaw07_TransformGrids_5 (fun σ=>C_waveportlaw07_TransformGrids_5.mk (Sl.mk (gSlA (gOwn σ 14 0)) (gSlL (gOwn σ 14 0)) (gSlC (gOwn σ 14 0))) (Sl.mk (gSlA (gOwn σ 16 0)) (gSlL (gOwn σ 16 0)) (gSlC (gOwn σ 16 0)))) (fun c x=>{ tm:=spT 230 0 [(1,.val (p1.v)),(2,.val (p2.v)),(3,.val (.int .i64 p3)),(4,.val (.int .i64 p4)),(14,.own 14 0),(16,.own 16 0),(17,.val (.bool x.t17))],own:=spO 230 0 [(14,⟨27,.fixed [.val (c.o14_0.v)]⟩),(16,⟨40,.fixed [.val (c.o16_0.v)]⟩)] }) I5 (.reg [A 108 2,A 109 0,⟨110,2,true⟩,A 111 2,A 112 7,A 16 4,A 114 0,A 115 0,A 116 20,A 17 0]) (.seq (.reg [A 14 4,A 119 2,A 120 10,A 117 2,A 121 0,A 122 0,A 18 2,A 19 2]) (.seq (.reg [A 14 4,A 125 2,A 126 2,A 127 10,A 123 2,A 128 0,A 129 0,A 20 3,A 20 6,A 21 2]) (.cut C_waveportlaw07_TransformGrids_6 L_waveportlaw07_TransformGrids_6 (fun σ=>C_waveportlaw07_TransformGrids_6.mk (Sl.mk (gSlA (gOwn σ 14 0)) (gSlL (gOwn σ 14 0)) (gSlC (gOwn σ 14 0))) (Sl.mk (gSlA (gOwn σ 16 0)) (gSlL (gOwn σ 16 0)) (gSlC (gOwn σ 16 0)))) (fun c x=>{ tm:=spT 230 0 [(1,.val (p1.v)),(2,.val (p2.v)),(14,.own 14 0),(16,.own 16 0)],own:=spO 230 0 [(14,⟨27,.fixed [.val (c.o14_0.v)]⟩),(16,⟨40,.fixed [.val (c.o16_0.v)]⟩)] }) I6 (.seq (.reg [A 130 2,A 131 0,A 132 2,A 133 0,⟨134,2,true⟩,A 135 2,A 136 0,A 137 2,⟨138,2,true⟩,A 139 2,A 140 0,A 141 20,⟨142,2,true⟩,A 143 2,A 144 7,A 16 4,A 146 7,A 147 5,A 148 0,A 149 0,A 150 20,A 151 0,A 152 20,⟨153,2,true⟩,A 154 2,A 155 0,⟨156,2,true⟩,A 157 2,A 158 0,A 159 20,A 160 20,⟨161,2,true⟩,A 162 2,A 163 0,⟨164,2,true⟩,A 165 2,A 166 0,A 167 20,A 168 20]) (.cond (.seq (.reg [A 10 9]) .leaf) .leaf)) (.seq (.reg [A 169 2,A 170 10,A 1 2]) (.seq (.reg [A 171 2,A 172 10,A 2 2]) (.seq (.draw [(0,A 14 4),(1,A 175 2),(3,A 177 2),(9,A 22 3),(2,A 176 10),(4,A 178 10),(5,A 179 10),(6,A 173 2),(7,A 180 0),(8,A 181 0),(10,A 22 6),(11,A 23 2)] [0,0,2,0,14,31,63,127,127,0,767,2047]) (.seq (.draw [(0,A 16 4),(1,A 184 2),(3,A 186 2),(9,A 24 3),(2,A 185 10),(4,A 187 10),(5,A 188 10),(6,A 182 2),(7,A 189 0),(8,A 190 0),(10,A 24 6),(11,A 25 2)] [0,0,2,0,14,31,63,127,127,0,767,2047]) (.seq (.draw [(0,A 14 4),(1,A 193 2),(3,A 195 2),(9,A 26 3),(2,A 194 10),(4,A 196 10),(5,A 197 10),(6,A 191 2),(7,A 198 0),(8,A 199 0),(10,A 26 6),(11,A 27 2)] [0,0,2,0,14,31,63,127,127,0,767,2047]) (.seq (.draw [(0,A 16 4),(1,A 202 2),(3,A 204 2),(9,A 28 3),(2,A 203 10),(4,A 205 10),(5,A 206 10),(6,A 200 2),(7,A 207 0),(8,A 208 0),(10,A 28 6),(11,A 29 2)] [0,0,2,0,14,31,63,127,127,0,767,2047]) (.seq (.reg [A 209 2,A 210 2,A 211 0,⟨212,2,true⟩,A 213 2,A 214 2,A 215 0,A 216 20,⟨217,2,true⟩,A 22 4,A 24 4,A 220 10,A 221 20,⟨222,2,true⟩,A 26 4,A 28 4,A 225 10,A 226 20,⟨227,2,true⟩,A 228 10,A 229 20,A 10 2]) .leaf))))))))))))))))))))
 (Eq.mpr (by kernel_rfl) (show waveportlaw07_TransformGrids_sk p0 p1 p2 p3 p4 V R I0 I1 I2 I3 I4 I5 I6 (fun c w V=>∃x,waveportlaw07_TransformGrids_f0 p0 p1 p2 p3 p4 c w x∧I0 c x V) (fun c w V=>∃x,waveportlaw07_TransformGrids_f1 p0 p1 p2 p3 p4 c w x∧I1 c x V) (fun c w V y U=>∃x,waveportlaw07_TransformGrids_f1 p0 p1 p2 p3 p4 c w x∧I1 c x V∧J1 c x V<J1 c y U) (fun c w V=>∃x,waveportlaw07_TransformGrids_f2 p0 p1 p2 p3 p4 c w x∧I2 c x V) (fun c w V=>∃x,waveportlaw07_TransformGrids_f3 p1 p2 p3 p4 c w x∧I3 c x V) (fun c w V=>∃x,waveportlaw07_TransformGrids_f4 p1 p2 p3 p4 c w x∧I4 c x V) (fun c w V=>∃x,waveportlaw07_TransformGrids_f5 p1 p2 p3 p4 c w x∧I5 c x V) (fun c w V=>∃x,waveportlaw07_TransformGrids_f6 p1 p2 c w x∧I6 c x V)from by
 have h:=Eq.mpr e h; unfold waveportlaw07_TransformGrids_sk at h ⊢; have Ee0:=fun c w V (h:I0 c w V)=>(⟨w,⟨⟨rfl,rfl,rfl,rfl,rfl,trivial⟩,trivial⟩,h⟩:∃x,waveportlaw07_TransformGrids_f0 p0 p1 p2 p3 p4 c w x∧I0 c x V); have Ee1:=fun c w V (h:I1 c w V)=>(⟨w,⟨⟨rfl,rfl,rfl,rfl,rfl,rfl,rfl,rfl,rfl,trivial⟩,trivial⟩,h⟩:∃x,waveportlaw07_TransformGrids_f1 p0 p1 p2 p3 p4 c w x∧I1 c x V); have Bb1:=fun c w V y U (h:I1 c w V∧J1 c w V<J1 c y U)=>(⟨w,⟨⟨rfl,rfl,rfl,rfl,rfl,rfl,rfl,rfl,rfl,trivial⟩,trivial⟩,h⟩:∃x,waveportlaw07_TransformGrids_f1 p0 p1 p2 p3 p4 c w x∧I1 c x V∧J1 c x V<J1 c y U); have Ee2:=fun c w V (h:I2 c w V)=>(⟨w,⟨⟨rfl,rfl,rfl,rfl,rfl,rfl,rfl,trivial⟩,⟨rfl,trivial⟩⟩,h⟩:∃x,waveportlaw07_TransformGrids_f2 p0 p1 p2 p3 p4 c w x∧I2 c x V); have Ee3:=fun c w V (h:I3 c w V)=>(⟨w,⟨⟨rfl,rfl,rfl,rfl,rfl,rfl,trivial⟩,⟨rfl,rfl,trivial⟩⟩,h⟩:∃x,waveportlaw07_TransformGrids_f3 p1 p2 p3 p4 c w x∧I3 c x V); have Ee4:=fun c w V (h:I4 c w V)=>(⟨w,⟨⟨rfl,rfl,rfl,rfl,rfl,rfl,trivial⟩,⟨rfl,rfl,trivial⟩⟩,h⟩:∃x,waveportlaw07_TransformGrids_f4 p1 p2 p3 p4 c w x∧I4 c x V); have Ee5:=fun c w V (h:I5 c w V)=>(⟨w,⟨⟨rfl,rfl,rfl,rfl,rfl,rfl,rfl,trivial⟩,⟨rfl,rfl,trivial⟩⟩,h⟩:∃x,waveportlaw07_TransformGrids_f5 p1 p2 p3 p4 c w x∧I5 c x V); have Ee6:=fun c w V (h:I6 c w V)=>(⟨w,⟨⟨rfl,rfl,rfl,rfl,trivial⟩,⟨rfl,rfl,trivial⟩⟩,h⟩:∃x,waveportlaw07_TransformGrids_f6 p1 p2 c w x∧I6 c x V); exact⟨⟨fun h9=>(CallV.mono (h.1.1 h9) (fun _ _ _ ⟨r1,h2,h1⟩=>⟨r1,h2,h1⟩)),fun h9=>⟨fun h8=>(CallV.mono ((h.1.2 h9).1 h8) (fun _ _ _ ⟨r2,h4,h3⟩=>⟨r2,h4,h3⟩)),fun h8=>⟨fun h7=>(CallV.mono (((h.1.2 h9).2 h8).1 h7) (fun _ _ _ ⟨r3,h6,h5⟩=>⟨r3,h6,h5⟩)),fun h7=>(Ee0 _ _ _ (((h.1.2 h9).2 h8).2 h7))⟩⟩⟩,fun x1 V1 h121 h122=>⟨(Ee1 _ _ _ (h.2 x1 V1 h121 h122).1),fun x4 V5 h119 h120=>⟨fun h118=>⟨(((h.2 x1 V1 h121 h122).2 x4 V5 h119 h120).1 h118).1,(match (((h.2 x1 V1 h121 h122).2 x4 V5 h119 h120).1 h118).2 with|⟨x5,h18,h17⟩=>⟨x5,h18,⟨fun h16=>(CallV.mono (h17.1 h16) (fun _ _ _ ⟨r4,h11,h10⟩=>⟨r4,h11,h10⟩)),fun h16=>⟨fun h15=>⟨fun h14=>⟨(((h17.2 h16).1 h15).1 h14).1,(match (((h17.2 h16).1 h15).1 h14).2 with|⟨x6,h13,h12⟩=>⟨x6,h13,(Bb1 _ _ _ _ _ h12)⟩)⟩,fun h14=>(Bb1 _ _ _ _ _ (((h17.2 h16).1 h15).2 h14))⟩,fun h15=>(Bb1 _ _ _ _ _ ((h17.2 h16).2 h15))⟩⟩⟩)⟩,fun h118=>(CallV.mono (((h.2 x1 V1 h121 h122).2 x4 V5 h119 h120).2 h118) (fun _ _ _ ⟨r5,h117,h116⟩=>⟨r5,h117,(CallV.mono h116 (fun _ _ _ ⟨r6,r7,h115,h114⟩=>⟨r6,r7,h115,⟨⟨fun h21=>(h114.1.1 h21),fun h21=>⟨fun h20=>⟨fun h19=>(((h114.1.2 h21).1 h20).1 h19),fun h19=>(Ee2 _ _ _ (((h114.1.2 h21).1 h20).2 h19))⟩,fun h20=>(Ee2 _ _ _ ((h114.1.2 h21).2 h20))⟩⟩,fun x10 V9 h112 h113=>⟨⟨fun h24=>(CallV.mono ((h114.2 x10 V9 h112 h113).1.1 h24) (fun _ _ _ ⟨r8,h23,h22⟩=>⟨r8,h23,(Ee3 _ _ _ h22)⟩)),fun h24=>(Ee3 _ _ _ ((h114.2 x10 V9 h112 h113).1.2 h24))⟩,fun x13 V10 h110 h111=>⟨(CallV.mono ((h114.2 x10 V9 h112 h113).2 x13 V10 h110 h111).1 (fun _ _ _ ⟨r9,h34,h33⟩=>⟨r9,h34,⟨fun h32=>(h33.1 h32),fun h32=>(CallV.mono (h33.2 h32) (fun _ _ _ ⟨r10,h31,h30⟩=>⟨r10,h31,(CallV.mono h30 (fun _ _ _ ⟨r11,h29,h28⟩=>⟨r11,h29,(CallV.mono h28 (fun _ _ _ ⟨r12,h27,h26⟩=>⟨r12,h27,⟨fun h25=>(h26.1 h25),fun h25=>(Ee4 _ _ _ (h26.2 h25))⟩⟩))⟩))⟩))⟩⟩)),fun x16 V12 h108 h109=>⟨⟨fun h35=>(Ee5 _ _ _ ((((h114.2 x10 V9 h112 h113).2 x13 V10 h110 h111).2 x16 V12 h108 h109).1.1 h35)),fun h35=>(Ee5 _ _ _ ((((h114.2 x10 V9 h112 h113).2 x13 V10 h110 h111).2 x16 V12 h108 h109).1.2 h35))⟩,fun x18 V17 h106 h107=>(CallV.mono ((((h114.2 x10 V9 h112 h113).2 x13 V10 h110 h111).2 x16 V12 h108 h109).2 x18 V17 h106 h107) (fun _ _ _ ⟨r13,r14,h105,h104⟩=>⟨r13,r14,h105,(CallV.mono h104 (fun _ _ _ ⟨r15,r16,h103,h102⟩=>⟨r15,r16,h103,⟨⟨fun h61=>(h102.1.1 h61),fun h61=>⟨fun h60=>⟨fun h52=>⟨(((h102.1.2 h61).1 h60).1 h52).1,(match (((h102.1.2 h61).1 h60).1 h52).2 with|⟨x22,h44,h43⟩=>⟨x22,h44,⟨fun h42=>(h43.1 h42),fun h42=>⟨fun h41=>⟨fun h38=>(((h43.2 h42).1 h41).1 h38),fun h38=>⟨fun h37=>⟨fun h36=>(((((h43.2 h42).1 h41).2 h38).1 h37).1 h36),fun h36=>(Ee6 _ _ _ (((((h43.2 h42).1 h41).2 h38).1 h37).2 h36))⟩,fun h37=>(Ee6 _ _ _ ((((h43.2 h42).1 h41).2 h38).2 h37))⟩⟩,fun h41=>⟨fun h40=>⟨fun h39=>((((h43.2 h42).2 h41).1 h40).1 h39),fun h39=>(Ee6 _ _ _ ((((h43.2 h42).2 h41).1 h40).2 h39))⟩,fun h40=>(Ee6 _ _ _ (((h43.2 h42).2 h41).2 h40))⟩⟩⟩⟩)⟩,fun h52=>⟨fun h51=>((((h102.1.2 h61).1 h60).2 h52).1 h51),fun h51=>⟨fun h50=>⟨fun h47=>((((((h102.1.2 h61).1 h60).2 h52).2 h51).1 h50).1 h47),fun h47=>⟨fun h46=>⟨fun h45=>((((((((h102.1.2 h61).1 h60).2 h52).2 h51).1 h50).2 h47).1 h46).1 h45),fun h45=>(Ee6 _ _ _ ((((((((h102.1.2 h61).1 h60).2 h52).2 h51).1 h50).2 h47).1 h46).2 h45))⟩,fun h46=>(Ee6 _ _ _ (((((((h102.1.2 h61).1 h60).2 h52).2 h51).1 h50).2 h47).2 h46))⟩⟩,fun h50=>⟨fun h49=>⟨fun h48=>(((((((h102.1.2 h61).1 h60).2 h52).2 h51).2 h50).1 h49).1 h48),fun h48=>(Ee6 _ _ _ (((((((h102.1.2 h61).1 h60).2 h52).2 h51).2 h50).1 h49).2 h48))⟩,fun h49=>(Ee6 _ _ _ ((((((h102.1.2 h61).1 h60).2 h52).2 h51).2 h50).2 h49))⟩⟩⟩⟩,fun h60=>⟨fun h59=>(((h102.1.2 h61).2 h60).1 h59),fun h59=>⟨fun h58=>⟨fun h55=>(((((h102.1.2 h61).2 h60).2 h59).1 h58).1 h55),fun h55=>⟨fun h54=>⟨fun h53=>(((((((h102.1.2 h61).2 h60).2 h59).1 h58).2 h55).1 h54).1 h53),fun h53=>(Ee6 _ _ _ (((((((h102.1.2 h61).2 h60).2 h59).1 h58).2 h55).1 h54).2 h53))⟩,fun h54=>(Ee6 _ _ _ ((((((h102.1.2 h61).2 h60).2 h59).1 h58).2 h55).2 h54))⟩⟩,fun h58=>⟨fun h57=>⟨fun h56=>((((((h102.1.2 h61).2 h60).2 h59).2 h58).1 h57).1 h56),fun h56=>(Ee6 _ _ _ ((((((h102.1.2 h61).2 h60).2 h59).2 h58).1 h57).2 h56))⟩,fun h57=>(Ee6 _ _ _ (((((h102.1.2 h61).2 h60).2 h59).2 h58).2 h57))⟩⟩⟩⟩⟩,fun x21 V20 h100 h101=>(CallV.mono (h102.2 x21 V20 h100 h101) (fun _ _ _ ⟨r17,h99,h98⟩=>⟨r17,h99,(CallV.mono h98 (fun _ _ _ ⟨r18,h97,h96⟩=>⟨r18,h97,(CallV.mono h96 (fun _ _ _ ⟨r19,h95,h94⟩=>⟨r19,h95,(CallV.mono h94 (fun _ _ _ ⟨r20,h93,h92⟩=>⟨r20,h93,(CallV.mono h92 (fun _ _ _ ⟨r21,r22,h91,h90⟩=>⟨r21,r22,h91,(CallV.mono h90 (fun _ _ _ ⟨r23,h89,h88⟩=>⟨r23,h89,(CallV.mono h88 (fun _ _ _ ⟨r24,h87,h86⟩=>⟨r24,h87,(CallV.mono h86 (fun _ _ _ ⟨r25,r26,h85,h84⟩=>⟨r25,r26,h85,(CallV.mono h84 (fun _ _ _ ⟨r27,h83,h82⟩=>⟨r27,h83,(CallV.mono h82 (fun _ _ _ ⟨r28,h81,h80⟩=>⟨r28,h81,(CallV.mono h80 (fun _ _ _ ⟨r29,r30,h79,h78⟩=>⟨r29,r30,h79,(CallV.mono h78 (fun _ _ _ ⟨r31,h77,h76⟩=>⟨r31,h77,(CallV.mono h76 (fun _ _ _ ⟨r32,h75,h74⟩=>⟨r32,h75,(CallV.mono h74 (fun _ _ _ ⟨r33,r34,h73,h72⟩=>⟨r33,r34,h73,⟨fun h71=>⟨fun h70=>(CallV.mono ((h72.1 h71).1 h70) (fun _ _ _ ⟨r35,h69,h68⟩=>⟨r35,h69,⟨fun h67=>(CallV.mono (h68.1 h67) (fun _ _ _ ⟨r36,h66,h65⟩=>⟨r36,h66,⟨fun h64=>(CallV.mono (h65.1 h64) (fun _ _ _ ⟨r37,h63,h62⟩=>⟨r37,h63,h62⟩)),fun h64=>(h65.2 h64)⟩⟩)),fun h67=>(h68.2 h67)⟩⟩)),fun h70=>((h72.1 h71).2 h70)⟩,fun h71=>(h72.2 h71)⟩⟩))⟩))⟩))⟩))⟩))⟩))⟩))⟩))⟩))⟩))⟩))⟩))⟩))⟩))⟩⟩))⟩))⟩⟩⟩⟩⟩))⟩))⟩⟩⟩))
theorem waveportlaw07_TransformGrids_vc:type_of% (fun p0 p1 p2 p3 p4 V R I0 I1 J1 I2 I3 I4 I5 I6=>waveportlaw07_TransformGrids_v0 p0 p1 p2 p3 p4 V R I0 I1 J1 I2 I3 I4 I5 I6 (waveportlaw07_TransformGrids_sk.eq_1 ..)):=fun p0 p1 p2 p3 p4 V R I0 I1 J1 I2 I3 I4 I5 I6=>waveportlaw07_TransformGrids_v0 p0 p1 p2 p3 p4 V R I0 I1 J1 I2 I3 I4 I5 I6 (waveportlaw07_TransformGrids_sk.eq_1 ..)
end Go.Proofs.YtfdaofhjkdabbaaGreat
