/- Part of the proof; it has the parts FR5. -/
import Derived.Test.YtfdaofhjkdabbaaGreatFRf1
set_option maxRecDepth 100000
set_option maxHeartbeats 4000000
namespace Go.Proofs.YtfdaofhjkdabbaaGreat
open Go Go.Vc Go.Proofs
open Go.IntKind (i8 i16 i32 i64 u8 u16 u32 u64)
structure L_ref1_NatText_0 where
 t0:Sl
 t3l:Nat
 t3c:Nat
 o3:List Value
structure L_ref1_NatText_1 where
 t3l:Nat
 t3c:Nat
 t5:Int
 t6:Int
 o3:List Value
structure C_ref1_NatText_1 where
 t4:Sl
structure L_ref1_NatText_2 where
 t7:Int
 t8:Int
 o3:List Value
structure C_ref1_NatText_2 where
 t3l:Nat
 t3c:Nat
def ref1_NatText_f0  (_c:Unit) (w x:L_ref1_NatText_0):Prop:=(E2 (.val (w.t0.v)) (.val (x.t0.v))∧E2 (.lst 3 w.t3l w.t3c) (.lst 3 x.t3l x.t3c)∧True)∧(O2 ⟨5,.list w.o3⟩ ⟨5,.list x.o3⟩∧True)
def ref1_NatText_f1  (c:C_ref1_NatText_1) (w x:L_ref1_NatText_1):Prop:=(E2 (.lst 3 w.t3l w.t3c) (.lst 3 x.t3l x.t3c)∧Q1 (.val (c.t4.v))∧E2 (.val (.int .u32 w.t5)) (.val (.int .u32 x.t5))∧E2 (.val (.int .i64 w.t6)) (.val (.int .i64 x.t6))∧True)∧(O2 ⟨5,.list w.o3⟩ ⟨5,.list x.o3⟩∧True)
def ref1_NatText_f2  (c:C_ref1_NatText_2) (w x:L_ref1_NatText_2):Prop:=(Q1 (.osl 3 0 c.t3l c.t3c)∧E2 (.val (.int .i64 w.t7)) (.val (.int .i64 x.t7))∧E2 (.val (.int .i64 w.t8)) (.val (.int .i64 x.t8))∧True)∧(O2 ⟨5,.dyn w.o3⟩ ⟨5,.dyn x.o3⟩∧True)
def ref1_NatText_sk (p0:Sl) (V:View) (R:Value→View→Prop) (I0:Unit→L_ref1_NatText_0→View→Prop) (I1:C_ref1_NatText_1→L_ref1_NatText_1→View→Prop) (I2:C_ref1_NatText_2→L_ref1_NatText_2→View→Prop) (E0:Unit→L_ref1_NatText_0→View→Prop) (B0:Unit→L_ref1_NatText_0→View→L_ref1_NatText_0→View→Prop) (E1:C_ref1_NatText_1→L_ref1_NatText_1→View→Prop) (B1:C_ref1_NatText_1→L_ref1_NatText_1→View→L_ref1_NatText_1→View→Prop) (E2:C_ref1_NatText_2→L_ref1_NatText_2→View→Prop) (B2:C_ref1_NatText_2→L_ref1_NatText_2→View→L_ref1_NatText_2→View→Prop):Prop :=
 ((((p0.len:Int):Int)==0)=true →
 R (.string (ByteArray.mk #[48])) V) ∧
 ((((p0.len:Int):Int)==0)=false →
 E0 () (L_ref1_NatText_0.mk p0 0 0 ([]:List Value)) V ∧
 (∀(x2:L_ref1_NatText_0) (V1:View),View.le V V1→I0 () x2 V1 →
 ((decide (((x2.t0.len:Int):Int)>0))=true →
 CallV Tryz.prog 387 #[x2.t0.v,.int .u32 1000000000] V1 fun v V2=>∃(r1:Sl) (r2:Int),v = .tuple #[r1.v,.int .u32 r2] ∧
 E1 (C_ref1_NatText_1.mk r1) (L_ref1_NatText_1.mk x2.t3l x2.t3c r2 0 x2.o3) V2 ∧
 (∀(x4:L_ref1_NatText_1) (V3:View),View.le V2 V3→I1 (C_ref1_NatText_1.mk r1) x4 V3 →
 ((decide ((x4.t6:Int)<9))=true →
 ((decide ((x4.t5:Int)>0))=true →
 (true=true →
 ∀(b1:Nat) (V4:View),View.le V3 V4→View.Fin V4→V4 b1=some #[.int .u8 (u8.wrap (u32.wrap (48+(Int.tmod x4.t5 10))))] →
 ∃(l1:List Value) (l2:List Value),LstOk 1 x4.t3l x4.t3c x4.o3 l1∧View.has V4 (some (Addr.mk b1 0 none)) l2∧List.length l2=1*1∧(∀v∈l2,Value.oneCell' v=true)∧x4.t3l+1≤maxLen∧(x4.t3l+1)*1≤140737488355328 ∧
 ∀(c1:Nat) (l3:List Value),LstOk 1 (x4.t3l+1) c1 l3 (l1++l2) →
 B1 (C_ref1_NatText_1.mk r1) (L_ref1_NatText_1.mk (x4.t3l+1) c1 (u32.wrap (Int.tdiv x4.t5 10)) (i64.wrap (x4.t6+1)) l3) V4 x4 V3) ∧
 (true=false →
 B0 () (L_ref1_NatText_0.mk r1 x4.t3l x4.t3c x4.o3) V3 x2 V1)) ∧
 ((decide ((x4.t5:Int)>0))=false →
 ((decide (((r1.len:Int):Int)>0))=true →
 ∀(b2:Nat) (V5:View),View.le V3 V5→View.Fin V5→V5 b2=some #[.int .u8 (u8.wrap (u32.wrap (48+(Int.tmod x4.t5 10))))] →
 ∃(l4:List Value) (l5:List Value),LstOk 1 x4.t3l x4.t3c x4.o3 l4∧View.has V5 (some (Addr.mk b2 0 none)) l5∧List.length l5=1*1∧(∀v∈l5,Value.oneCell' v=true)∧x4.t3l+1≤maxLen∧(x4.t3l+1)*1≤140737488355328 ∧
 ∀(c2:Nat) (l6:List Value),LstOk 1 (x4.t3l+1) c2 l6 (l4++l5) →
 B1 (C_ref1_NatText_1.mk r1) (L_ref1_NatText_1.mk (x4.t3l+1) c2 (u32.wrap (Int.tdiv x4.t5 10)) (i64.wrap (x4.t6+1)) l6) V5 x4 V3) ∧
 ((decide (((r1.len:Int):Int)>0))=false →
 B0 () (L_ref1_NatText_0.mk r1 x4.t3l x4.t3c x4.o3) V3 x2 V1))) ∧
 ((decide ((x4.t6:Int)<9))=false →
 (false=true →
 ∀(b3:Nat) (V6:View),View.le V3 V6→View.Fin V6→V6 b3=some #[.int .u8 (u8.wrap (u32.wrap (48+(Int.tmod x4.t5 10))))] →
 ∃(l7:List Value) (l8:List Value),LstOk 1 x4.t3l x4.t3c x4.o3 l7∧View.has V6 (some (Addr.mk b3 0 none)) l8∧List.length l8=1*1∧(∀v∈l8,Value.oneCell' v=true)∧x4.t3l+1≤maxLen∧(x4.t3l+1)*1≤140737488355328 ∧
 ∀(c3:Nat) (l9:List Value),LstOk 1 (x4.t3l+1) c3 l9 (l7++l8) →
 B1 (C_ref1_NatText_1.mk r1) (L_ref1_NatText_1.mk (x4.t3l+1) c3 (u32.wrap (Int.tdiv x4.t5 10)) (i64.wrap (x4.t6+1)) l9) V6 x4 V3) ∧
 (false=false →
 B0 () (L_ref1_NatText_0.mk r1 x4.t3l x4.t3c x4.o3) V3 x2 V1)))) ∧
 ((decide (((x2.t0.len:Int):Int)>0))=false →
 (x2.o3≠[]∧(x2.t3c≠0∧True)∧(True)) ∧
 E2 (C_ref1_NatText_2.mk x2.t3l x2.t3c) (L_ref1_NatText_2.mk 0 (i64.wrap (((x2.t3l:Nat):Int)-1)) x2.o3) V1 ∧
 (∀(x12:L_ref1_NatText_2) (V7:View),View.le V1 V7→I2 (C_ref1_NatText_2.mk x2.t3l x2.t3c) x12 V7 →
 ((decide ((x12.t7:Int)<x12.t8))=true →
 ((0:Int)≤x12.t8∧(x12.t8:Int)<(x2.t3l:Nat)) ∧
 ∃x13:Int,x12.o3[0+Int.toNat x12.t8*1]?=some (.int .u8 x13) ∧
 ((0:Int)≤x12.t7∧(x12.t7:Int)<(x2.t3l:Nat)) ∧
 ∃x14:Int,x12.o3[0+Int.toNat x12.t7*1]?=some (.int .u8 x14) ∧
 ((0:Int)≤x12.t7∧(x12.t7:Int)<(x2.t3l:Nat)) ∧
 0+Int.toNat x12.t7*1+1≤List.length x12.o3 ∧
 ((0:Int)≤x12.t8∧(x12.t8:Int)<(x2.t3l:Nat)) ∧
 0+Int.toNat x12.t8*1+1≤List.length (List.set x12.o3 (0+Int.toNat x12.t7*1) (.int .u8 x13)) ∧
 B2 (C_ref1_NatText_2.mk x2.t3l x2.t3c) (L_ref1_NatText_2.mk (i64.wrap (x12.t7+1)) (i64.wrap (x12.t8-1)) (List.set (List.set x12.o3 (0+Int.toNat x12.t7*1) (.int .u8 x13)) (0+Int.toNat x12.t8*1) (.int .u8 x14))) V7 x12 V7) ∧
 ((decide ((x12.t7:Int)<x12.t8))=false →
 ∀(b4:Nat) (V8:View),View.le V7 V8→V8 b4=some (List.toArray x12.o3) →
 ∃l10:List UInt8,View.has V8 (some (Addr.mk b4 0 none)) (List.map byteV l10)∧List.length l10=x2.t3l∧Option.isSome (some (Addr.mk b4 0 none))=true ∧
 R (.string (ByteArray.mk (List.toArray l10))) V8)))))
theorem ref1_NatText_v0 (p0:Sl) (V:View) (R:Value→View→Prop) (I0:Unit→L_ref1_NatText_0→View→Prop) (J0:Unit→L_ref1_NatText_0→View→Nat) (I1:C_ref1_NatText_1→L_ref1_NatText_1→View→Prop) (J1:C_ref1_NatText_1→L_ref1_NatText_1→View→Nat) (I2:C_ref1_NatText_2→L_ref1_NatText_2→View→Prop) (J2:C_ref1_NatText_2→L_ref1_NatText_2→View→Nat) {X:Prop} (e:ref1_NatText_sk p0 V R I0 I1 I2 I0 (fun c w V x U=>I0 c w V∧J0 c w V<J0 c x U) I1 (fun c w V x U=>I1 c w V∧J1 c w V<J1 c x U) I2 (fun c w V x U=>I2 c w V∧J2 c w V<J2 c x U)=X) (h:X) :
 CallV Tryz.prog 381 #[p0.v] V R :=
 calls_of_vc (Shp:=Shp) hmixed Tryz.func381 (c:=Tryz.f381.body.getD .skip) (args:=[p0.v]) (by kernel_rfl)
 (.seq (.reg [A 2 2]) (.seq (.seq (.reg [A 9 2,A 10 0,A 11 0]) (.cond (.seq (.reg [A 2 2]) .leaf) .leaf)) (.seq (.reg [A 3 2]) (.seq (.adopt 3 3 5 (.block (.loop Unit L_ref1_NatText_0 (fun _=>()) (fun c x=>{ tm:=spT 69 0 [(0,.val (x.t0.v)),(3,.lst 3 x.t3l x.t3c)],own:=spO 69 0 [(3,⟨5,.list x.o3⟩)] }) I0 J0 (.seq (.seq (.reg [A 12 2,A 13 0,A 14 0]) (.cond .leaf .leaf)) (.block (.seq (.reg [A 16 2,A 17 10,A 15 2,A 18 0,A 19 0,A 4 2,A 5 2]) (.seq (.seq (.reg [A 6 2]) (.block (.loop C_ref1_NatText_1 L_ref1_NatText_1 (fun σ=>C_ref1_NatText_1.mk (Sl.mk (gSlA (gTm σ 4)) (gSlL (gTm σ 4)) (gSlC (gTm σ 4)))) (fun c x=>{ tm:=spT 69 0 [(3,.lst 3 x.t3l x.t3c),(4,.val (c.t4.v)),(5,.val (.int .u32 x.t5)),(6,.val (.int .i64 x.t6))],own:=spO 69 0 [(3,⟨5,.list x.o3⟩)] }) I1 J1 (.seq (.seq (.reg [A 20 2,A 21 0,⟨22,2,true⟩,A 23 2,A 24 0,⟨25,2,true⟩,A 26 2,A 27 0,A 28 0,A 29 2,A 30 2]) (.cond .leaf .leaf)) (.seq (.block (.seq (.reg [A 33 2,A 34 2,A 35 0,A 36 0,A 37 0,A 38 11,A 3 13,A 3 2]) (.reg [A 40 2,A 41 0,A 5 2]))) (.reg [A 31 2,A 32 0,A 6 2])))))) (.reg [A 42 2,A 0 2])))))))) (.seq (.seq (.solid 3 (.reg [A 43 2,A 44 7,A 45 0,A 7 2,A 8 2])) (.block (.loop C_ref1_NatText_2 L_ref1_NatText_2 (fun σ=>C_ref1_NatText_2.mk (gLen (gTm σ 3)) (gCap (gTm σ 3))) (fun c x=>{ tm:=spT 69 0 [(3,.osl 3 0 c.t3l c.t3c),(7,.val (.int .i64 x.t7)),(8,.val (.int .i64 x.t8))],own:=spO 69 0 [(3,⟨5,.dyn x.o3⟩)] }) I2 J2 (.seq (.seq (.reg [A 46 2,A 47 2,A 48 0]) (.cond .leaf .leaf)) (.seq (.block (.draw [(0,A 53 2),(1,A 54 2),(2,A 55 2),(3,A 56 2),(4,A 57 2),(5,A 58 2),(6,A 59 7),(7,A 3 4),(8,A 61 2),(9,A 62 2),(10,A 63 7),(11,A 3 4),(12,A 65 7),(13,A 3 6),(14,A 66 7),(15,A 3 6)] [0,0,0,0,0,0,48,112,0,0,768,1792,4083,8179,16383,32767])) (.reg [A 49 2,A 50 0,A 51 2,A 52 0,A 7 2,A 8 2])))))) (.seq (.pub 3 (.reg [A 67 2,A 68 5,A 2 2])) .leaf))))))
 (Eq.mpr (by kernel_rfl) (show ref1_NatText_sk p0 V R I0 I1 I2 (fun c w V=>∃x,ref1_NatText_f0  c w x∧I0 c x V) (fun c w V y U=>∃x,ref1_NatText_f0  c w x∧I0 c x V∧J0 c x V<J0 c y U) (fun c w V=>∃x,ref1_NatText_f1  c w x∧I1 c x V) (fun c w V y U=>∃x,ref1_NatText_f1  c w x∧I1 c x V∧J1 c x V<J1 c y U) (fun c w V=>∃x,ref1_NatText_f2  c w x∧I2 c x V) (fun c w V y U=>∃x,ref1_NatText_f2  c w x∧I2 c x V∧J2 c x V<J2 c y U)from by
 have h:=Eq.mpr e h; unfold ref1_NatText_sk at h ⊢; have Ee0:=fun c w V (h:I0 c w V)=>(⟨w,⟨⟨rfl,rfl,trivial⟩,⟨rfl,trivial⟩⟩,h⟩:∃x,ref1_NatText_f0  c w x∧I0 c x V); have Bb0:=fun c w V y U (h:I0 c w V∧J0 c w V<J0 c y U)=>(⟨w,⟨⟨rfl,rfl,trivial⟩,⟨rfl,trivial⟩⟩,h⟩:∃x,ref1_NatText_f0  c w x∧I0 c x V∧J0 c x V<J0 c y U); have Ee1:=fun c w V (h:I1 c w V)=>(⟨w,⟨⟨rfl,rfl,rfl,rfl,trivial⟩,⟨rfl,trivial⟩⟩,h⟩:∃x,ref1_NatText_f1  c w x∧I1 c x V); have Bb1:=fun c w V y U (h:I1 c w V∧J1 c w V<J1 c y U)=>(⟨w,⟨⟨rfl,rfl,rfl,rfl,trivial⟩,⟨rfl,trivial⟩⟩,h⟩:∃x,ref1_NatText_f1  c w x∧I1 c x V∧J1 c x V<J1 c y U); have Ee2:=fun c w V (h:I2 c w V)=>(⟨w,⟨⟨rfl,rfl,rfl,trivial⟩,⟨rfl,trivial⟩⟩,h⟩:∃x,ref1_NatText_f2  c w x∧I2 c x V); have Bb2:=fun c w V y U (h:I2 c w V∧J2 c w V<J2 c y U)=>(⟨w,⟨⟨rfl,rfl,rfl,trivial⟩,⟨rfl,trivial⟩⟩,h⟩:∃x,ref1_NatText_f2  c w x∧I2 c x V∧J2 c x V<J2 c y U); exact⟨fun h59=>(h.1 h59),fun h59=>⟨(Ee0 _ _ _ (h.2 h59).1),fun x2 V1 h57 h58=>⟨fun h56=>(CallV.mono (((h.2 h59).2 x2 V1 h57 h58).1 h56) (fun _ _ _ ⟨r1,r2,h42,h41⟩=>⟨r1,r2,h42,⟨(Ee1 _ _ _ h41.1),fun x4 V3 h39 h40=>⟨fun h38=>⟨fun h25=>⟨fun h12=>(fun b1 V4 h9 h10 h11=>(match (((((h41.2 x4 V3 h39 h40).1 h38).1 h25).1 h12) b1 V4 h9 h10 h11)with|⟨l1,l2,h3,h4,h5,h6,h7,h8,h2⟩=>⟨l1,l2,h3,h4,h5,h6,h7,h8,(fun c1 l3 h1=>(Bb1 _ _ _ _ _ (h2 c1 l3 h1)))⟩)),fun h12=>(Bb0 _ _ _ _ _ ((((h41.2 x4 V3 h39 h40).1 h38).1 h25).2 h12))⟩,fun h25=>⟨fun h24=>(fun b2 V5 h21 h22 h23=>(match (((((h41.2 x4 V3 h39 h40).1 h38).2 h25).1 h24) b2 V5 h21 h22 h23)with|⟨l4,l5,h15,h16,h17,h18,h19,h20,h14⟩=>⟨l4,l5,h15,h16,h17,h18,h19,h20,(fun c2 l6 h13=>(Bb1 _ _ _ _ _ (h14 c2 l6 h13)))⟩)),fun h24=>(Bb0 _ _ _ _ _ ((((h41.2 x4 V3 h39 h40).1 h38).2 h25).2 h24))⟩⟩,fun h38=>⟨fun h37=>(fun b3 V6 h34 h35 h36=>(match ((((h41.2 x4 V3 h39 h40).2 h38).1 h37) b3 V6 h34 h35 h36)with|⟨l7,l8,h28,h29,h30,h31,h32,h33,h27⟩=>⟨l7,l8,h28,h29,h30,h31,h32,h33,(fun c3 l9 h26=>(Bb1 _ _ _ _ _ (h27 c3 l9 h26)))⟩)),fun h37=>(Bb0 _ _ _ _ _ (((h41.2 x4 V3 h39 h40).2 h38).2 h37))⟩⟩⟩⟩)),fun h56=>⟨(((h.2 h59).2 x2 V1 h57 h58).2 h56).1,⟨(Ee2 _ _ _ (((h.2 h59).2 x2 V1 h57 h58).2 h56).2.1),fun x12 V7 h54 h55=>⟨fun h53=>⟨(((((h.2 h59).2 x2 V1 h57 h58).2 h56).2.2 x12 V7 h54 h55).1 h53).1,(match (((((h.2 h59).2 x2 V1 h57 h58).2 h56).2.2 x12 V7 h54 h55).1 h53).2 with|⟨x13,h46,h45⟩=>⟨x13,h46,⟨h45.1,(match h45.2 with|⟨x14,h44,h43⟩=>⟨x14,h44,⟨h43.1,⟨h43.2.1,⟨h43.2.2.1,⟨h43.2.2.2.1,(Bb2 _ _ _ _ _ h43.2.2.2.2)⟩⟩⟩⟩⟩)⟩⟩)⟩,fun h53=>(fun b4 V8 h51 h52=>(match ((((((h.2 h59).2 x2 V1 h57 h58).2 h56).2.2 x12 V7 h54 h55).2 h53) b4 V8 h51 h52)with|⟨l10,h48,h49,h50,h47⟩=>⟨l10,h48,h49,h50,h47⟩))⟩⟩⟩⟩⟩⟩))
theorem ref1_NatText_vc:type_of% (fun p0 V R I0 J0 I1 J1 I2 J2=>ref1_NatText_v0 p0 V R I0 J0 I1 J1 I2 J2 (ref1_NatText_sk.eq_1 ..)):=fun p0 V R I0 J0 I1 J1 I2 J2=>ref1_NatText_v0 p0 V R I0 J0 I1 J1 I2 J2 (ref1_NatText_sk.eq_1 ..)
theorem ref1_half_vc (p0:WhV) (p1:Sl) (V:View) (R:Value→View→Prop)
 (h :
 CallV Tryz.prog 342 #[p0.mag.v,p1.v] V fun v V1=>∃r1:Sl,v=r1.v ∧
 CallV Tryz.prog 343 #[p0.mag.v,r1.v] V1 fun v V2=>∃(r2:Sl) (r3:Sl),v = .tuple #[r2.v,r3.v] ∧
 CallV Tryz.prog 343 #[p1.v,r1.v] V2 fun v V3=>∃(r4:Sl) (r5:Sl),v = .tuple #[r4.v,r5.v] ∧
 CallV Tryz.prog 381 #[r2.v] V3 fun v V4=>∃r6:ByteArray,v = .string r6 ∧
 (p0.neg=true →
 ((ByteArray.size (ByteArray.mk #[45])+ByteArray.size r6:Nat):Int)≤i64.max ∧
 ((((r4.len:Int):Int)==1)=true →
 ((0:Int)≤0∧(0:Int)<(r4.len:Nat)∧Option.isSome r4.a=true) ∧
 ∃x1:Int,View.load V4 (Option.map (fun q=>Addr.add q (Int.toNat 0*1)) r4.a)=some (.int .u32 x1) ∧
 (((x1:Int)==1)=true →
 R (.string ((ByteArray.mk #[45])++r6)) V4) ∧
 (((x1:Int)==1)=false →
 ((ByteArray.size ((ByteArray.mk #[45])++r6)+ByteArray.size (ByteArray.mk #[47]):Nat):Int)≤i64.max ∧
 CallV Tryz.prog 381 #[r4.v] V4 fun v V5=>∃r7:ByteArray,v = .string r7 ∧
 ((ByteArray.size (((ByteArray.mk #[45])++r6)++(ByteArray.mk #[47]))+ByteArray.size r7:Nat):Int)≤i64.max ∧
 R (.string ((((ByteArray.mk #[45])++r6)++(ByteArray.mk #[47]))++r7)) V5)) ∧
 ((((r4.len:Int):Int)==1)=false →
 (false=true →
 R (.string ((ByteArray.mk #[45])++r6)) V4) ∧
 (false=false →
 ((ByteArray.size ((ByteArray.mk #[45])++r6)+ByteArray.size (ByteArray.mk #[47]):Nat):Int)≤i64.max ∧
 CallV Tryz.prog 381 #[r4.v] V4 fun v V6=>∃r8:ByteArray,v = .string r8 ∧
 ((ByteArray.size (((ByteArray.mk #[45])++r6)++(ByteArray.mk #[47]))+ByteArray.size r8:Nat):Int)≤i64.max ∧
 R (.string ((((ByteArray.mk #[45])++r6)++(ByteArray.mk #[47]))++r8)) V6))) ∧
 (p0.neg=false →
 ((((r4.len:Int):Int)==1)=true →
 ((0:Int)≤0∧(0:Int)<(r4.len:Nat)∧Option.isSome r4.a=true) ∧
 ∃x2:Int,View.load V4 (Option.map (fun q=>Addr.add q (Int.toNat 0*1)) r4.a)=some (.int .u32 x2) ∧
 (((x2:Int)==1)=true →
 R (.string r6) V4) ∧
 (((x2:Int)==1)=false →
 ((ByteArray.size r6+ByteArray.size (ByteArray.mk #[47]):Nat):Int)≤i64.max ∧
 CallV Tryz.prog 381 #[r4.v] V4 fun v V7=>∃r9:ByteArray,v = .string r9 ∧
 ((ByteArray.size (r6++(ByteArray.mk #[47]))+ByteArray.size r9:Nat):Int)≤i64.max ∧
 R (.string ((r6++(ByteArray.mk #[47]))++r9)) V7)) ∧
 ((((r4.len:Int):Int)==1)=false →
 (false=true →
 R (.string r6) V4) ∧
 (false=false →
 ((ByteArray.size r6+ByteArray.size (ByteArray.mk #[47]):Nat):Int)≤i64.max ∧
 CallV Tryz.prog 381 #[r4.v] V4 fun v V8=>∃r10:ByteArray,v = .string r10 ∧
 ((ByteArray.size (r6++(ByteArray.mk #[47]))+ByteArray.size r10:Nat):Int)≤i64.max ∧
 R (.string ((r6++(ByteArray.mk #[47]))++r10)) V8)))) :
 CallV Tryz.prog 321 #[p0.val,p1.v] V R :=
 calls_of_vc (Shp:=Shp) hmixed Tryz.func321 (c:=Tryz.f321.body.getD .skip) (args:=[p0.val,p1.v]) (by kernel_rfl)
 (.seq (.reg [A 2 3,A 4 2]) (.seq (.reg [A 11 7,A 2 4,A 13 2,A 14 10,A 5 2]) (.seq (.reg [A 16 7,A 2 4,A 18 2,A 19 10,A 15 2,A 20 0,A 21 0,A 6 2,A 7 2]) (.seq (.reg [A 23 2,A 24 2,A 25 10,A 22 2,A 26 0,A 27 0,A 8 2,A 9 2]) (.seq (.reg [A 28 2,A 29 10,A 10 2]) (.seq (.seq (.reg [A 30 7,A 2 4]) (.cond (.reg [A 32 2,A 33 12,A 10 2]) .leaf)) (.seq (.seq (.reg [A 34 2,A 35 0,A 36 0,⟨37,2,true⟩,A 38 2,A 39 7,A 40 5,A 41 0,A 42 2]) (.cond (.seq (.reg [A 43 2,A 4 2]) .leaf) .leaf)) (.seq (.reg [A 44 2,A 45 12,A 46 2,A 47 10,A 48 12,A 4 2]) .leaf))))))))
 (Eq.mpr (by kernel_rfl) h)
theorem ref1_Text_vc (p0:NumV) (V:View) (R:Value→View→Prop)
 (h :
 ((((p0.im.mag.len:Int):Int)==0)=true →
 CallV Tryz.prog 321 #[p0.re.val,p0.under.v] V fun v V1=>∃r1:ByteArray,v = .string r1 ∧
 R (.string r1) V1) ∧
 ((((p0.im.mag.len:Int):Int)==0)=false →
 ((((p0.re.mag.len:Int):Int)==0)=true →
 CallV Tryz.prog 321 #[p0.im.val,p0.under.v] V fun v V2=>∃r2:ByteArray,v = .string r2 ∧
 ((ByteArray.size r2+ByteArray.size (ByteArray.mk #[105]):Nat):Int)≤i64.max ∧
 R (.string (r2++(ByteArray.mk #[105]))) V2) ∧
 ((((p0.re.mag.len:Int):Int)==0)=false →
 (p0.im.neg=true →
 CallV Tryz.prog 321 #[p0.re.val,p0.under.v] V fun v V3=>∃r3:ByteArray,v = .string r3 ∧
 CallV Tryz.prog 321 #[p0.im.val,p0.under.v] V3 fun v V4=>∃r4:ByteArray,v = .string r4 ∧
 ((ByteArray.size r3+ByteArray.size r4:Nat):Int)≤i64.max ∧
 ((ByteArray.size (r3++r4)+ByteArray.size (ByteArray.mk #[105]):Nat):Int)≤i64.max ∧
 R (.string ((r3++r4)++(ByteArray.mk #[105]))) V4) ∧
 (p0.im.neg=false →
 CallV Tryz.prog 321 #[p0.re.val,p0.under.v] V fun v V5=>∃r5:ByteArray,v = .string r5 ∧
 ((ByteArray.size r5+ByteArray.size (ByteArray.mk #[43]):Nat):Int)≤i64.max ∧
 CallV Tryz.prog 321 #[p0.im.val,p0.under.v] V5 fun v V6=>∃r6:ByteArray,v = .string r6 ∧
 ((ByteArray.size (r5++(ByteArray.mk #[43]))+ByteArray.size r6:Nat):Int)≤i64.max ∧
 ((ByteArray.size ((r5++(ByteArray.mk #[43]))++r6)+ByteArray.size (ByteArray.mk #[105]):Nat):Int)≤i64.max ∧
 R (.string (((r5++(ByteArray.mk #[43]))++r6)++(ByteArray.mk #[105]))) V6)))) :
 CallV Tryz.prog 237 #[p0.val] V R :=
 calls_of_vc (Shp:=Shp) hmixed Tryz.func237 (c:=Tryz.f237.body.getD .skip) (args:=[p0.val]) (by kernel_rfl)
 (.seq (.reg [A 1 3,A 2 2]) (.seq (.seq (.reg [A 3 7,A 4 7,A 1 4,A 6 0,A 7 0]) (.cond (.seq (.reg [A 8 7,A 1 4,A 10 7,A 1 4,A 12 10,A 2 2]) .leaf) .leaf)) (.seq (.seq (.reg [A 13 7,A 14 7,A 1 4,A 16 0,A 17 0]) (.cond (.seq (.reg [A 18 7,A 1 4,A 20 7,A 1 4,A 22 10,A 23 12,A 2 2]) .leaf) .leaf)) (.seq (.seq (.reg [A 24 7,A 25 7,A 1 4]) (.cond (.seq (.draw [(0,A 27 7),(1,A 1 4),(2,A 29 7),(3,A 1 4),(5,A 32 7),(6,A 1 4),(7,A 34 7),(8,A 1 4),(4,A 31 10),(9,A 36 10),(10,A 37 12),(11,A 38 12),(12,A 2 2)] [0,1,0,4,15,0,32,0,128,511,1023,2047,4095]) .leaf) .leaf)) (.seq (.draw [(0,A 39 7),(1,A 1 4),(2,A 41 7),(3,A 1 4),(6,A 45 7),(7,A 1 4),(8,A 47 7),(9,A 1 4),(4,A 43 10),(5,A 44 12),(10,A 49 10),(11,A 50 12),(12,A 51 12),(13,A 2 2)] [0,1,0,4,15,31,0,64,0,256,991,2047,4095,8191]) .leaf)))))
 (Eq.mpr (by kernel_rfl) h)
theorem law1_Is_vc (p0:NumV) (p1:NumV) (V:View) (R:Value→View→Prop)
 (h :
 CallV Tryz.prog 107 #[p0.val] V fun v V1=>∃r1:ByteArray,v = .string r1 ∧
 CallV Tryz.prog 237 #[p1.val] V1 fun v V2=>∃r2:ByteArray,v = .string r2 ∧
 R (.bool (ByteArray.toList r1==ByteArray.toList r2)) V2) :
 CallV Tryz.prog 111 #[p0.val,p1.val] V R :=
 calls_of_vc (Shp:=Shp) hmixed Tryz.func111 (c:=Tryz.f111.body.getD .skip) (args:=[p0.val,p1.val]) (by kernel_rfl)
 (.seq (.reg [A 2 3,A 3 3,A 4 2]) (.seq (.draw [(0,A 2 4),(2,A 3 4),(1,A 6 10),(3,A 8 10),(4,A 9 0),(5,A 4 2)] [0,1,0,7,15,31]) .leaf))
 (Eq.mpr (by kernel_rfl) h)
structure L_law1_AreAll_0 where
 t14:Int
def law1_AreAll_f0 (p0:Sl) (p1:Sl) (_c:Unit) (w x:L_law1_AreAll_0):Prop:=(Q1 (.val (p1.v))∧Q1 (.val (p0.v))∧Q1 (.val (.int .i64 (p0.len:Int)))∧E2 (.val (.int .i64 w.t14)) (.val (.int .i64 x.t14))∧True)∧(True)
def law1_AreAll_sk (p0:Sl) (p1:Sl) (V:View) (R:Value→View→Prop) (I0:Unit→L_law1_AreAll_0→View→Prop) (E0:Unit→L_law1_AreAll_0→View→Prop) (B0:Unit→L_law1_AreAll_0→View→L_law1_AreAll_0→View→Prop):Prop :=
 ((((p0.len:Int):Int) != (p1.len:Int))=true →
 R (.bool false) V) ∧
 ((((p0.len:Int):Int) != (p1.len:Int))=false →
 E0 () (L_law1_AreAll_0.mk 0) V ∧
 (∀(x2:L_law1_AreAll_0) (V1:View),View.le V V1→I0 () x2 V1 →
 ((decide ((x2.t14:Int)<(p0.len:Int)))=true →
 ((0:Int)≤x2.t14∧(x2.t14:Int)<(p0.len:Nat)∧Option.isSome p0.a=true) ∧
 ∃x3:NumV,View.has V1 (Option.map (fun q=>Addr.add q (Int.toNat x2.t14*5)) p0.a) (x3.val).cells.toList∧Option.isSome (Option.map (fun q=>Addr.add q (Int.toNat x2.t14*5)) p0.a)=true ∧
 ((0:Int)≤x2.t14∧(x2.t14:Int)<(p1.len:Nat)∧Option.isSome p1.a=true) ∧
 ∃x4:NumV,View.has V1 (Option.map (fun q=>Addr.add q (Int.toNat x2.t14*5)) p1.a) (x4.val).cells.toList∧Option.isSome (Option.map (fun q=>Addr.add q (Int.toNat x2.t14*5)) p1.a)=true ∧
 CallV Tryz.prog 111 #[x3.val,x4.val] V1 fun v V2=>∃r1:Bool,v = .bool r1 ∧
 ((!r1)=true →
 R (.bool false) V2) ∧
 ((!r1)=false →
 B0 () (L_law1_AreAll_0.mk (i64.wrap (x2.t14+1))) V2 x2 V1)) ∧
 ((decide ((x2.t14:Int)<(p0.len:Int)))=false →
 R (.bool true) V1)))
theorem law1_AreAll_v0 (p0:Sl) (p1:Sl) (V:View) (R:Value→View→Prop) (I0:Unit→L_law1_AreAll_0→View→Prop) (J0:Unit→L_law1_AreAll_0→View→Nat) {X:Prop} (e:law1_AreAll_sk p0 p1 V R I0 I0 (fun c w V x U=>I0 c w V∧J0 c w V<J0 c x U)=X) (h:X) :
 CallV Tryz.prog 110 #[p0.v,p1.v] V R :=
 calls_of_vc (Shp:=Shp) hmixed Tryz.func110 (c:=Tryz.f110.body.getD .skip) (args:=[p0.v,p1.v]) (by kernel_rfl)
 (.seq (.reg [A 4 2]) (.seq (.seq (.reg [A 7 2,A 8 0,A 9 2,A 10 0,A 11 0]) (.cond (.seq (.reg [A 4 2]) .leaf) .leaf)) (.seq (.seq (.reg [A 12 2,A 13 0,A 14 2]) (.block (.loop Unit L_law1_AreAll_0 (fun _=>()) (fun c x=>{ tm:=spT 27 0 [(1,.val (p1.v)),(12,.val (p0.v)),(13,.val (.int .i64 (p0.len:Int))),(14,.val (.int .i64 x.t14))],own:=spO 27 0 [] }) I0 J0 (.seq (.reg [A 15 0]) (.seq (.cond .leaf .leaf) (.seq (.block (.seq (.reg [A 16 2,A 17 7,A 18 5,A 6 3,A 5 2,A 6 6]) (.seq (.draw [(0,A 6 4),(1,A 20 2),(2,A 21 2),(3,A 22 7),(4,A 23 5),(5,A 24 10),(6,A 25 0)] [0,0,0,6,14,31,63]) (.cond (.seq (.reg [A 4 2]) .leaf) .leaf)))) (.reg [A 26 0,A 14 2]))))))) (.seq (.reg [A 4 2]) .leaf))))
 (Eq.mpr (by kernel_rfl) (show law1_AreAll_sk p0 p1 V R I0 (fun c w V=>∃x,law1_AreAll_f0 p0 p1 c w x∧I0 c x V) (fun c w V y U=>∃x,law1_AreAll_f0 p0 p1 c w x∧I0 c x V∧J0 c x V<J0 c y U)from by
 have h:=Eq.mpr e h; unfold law1_AreAll_sk at h ⊢; have Ee0:=fun c w V (h:I0 c w V)=>(⟨w,⟨⟨rfl,rfl,rfl,rfl,trivial⟩,trivial⟩,h⟩:∃x,law1_AreAll_f0 p0 p1 c w x∧I0 c x V); have Bb0:=fun c w V y U (h:I0 c w V∧J0 c w V<J0 c y U)=>(⟨w,⟨⟨rfl,rfl,rfl,rfl,trivial⟩,trivial⟩,h⟩:∃x,law1_AreAll_f0 p0 p1 c w x∧I0 c x V∧J0 c x V<J0 c y U); exact⟨fun h13=>(h.1 h13),fun h13=>⟨(Ee0 _ _ _ (h.2 h13).1),fun x2 V1 h11 h12=>⟨fun h10=>⟨(((h.2 h13).2 x2 V1 h11 h12).1 h10).1,(match (((h.2 h13).2 x2 V1 h11 h12).1 h10).2 with|⟨x3,h8,h9,h7⟩=>⟨x3,h8,h9,⟨h7.1,(match h7.2 with|⟨x4,h5,h6,h4⟩=>⟨x4,h5,h6,(CallV.mono h4 (fun _ _ _ ⟨r1,h3,h2⟩=>⟨r1,h3,⟨fun h1=>(h2.1 h1),fun h1=>(Bb0 _ _ _ _ _ (h2.2 h1))⟩⟩))⟩)⟩⟩)⟩,fun h10=>(((h.2 h13).2 x2 V1 h11 h12).2 h10)⟩⟩⟩))
theorem law1_AreAll_vc:type_of% (fun p0 p1 V R I0 J0=>law1_AreAll_v0 p0 p1 V R I0 J0 (law1_AreAll_sk.eq_1 ..)):=fun p0 p1 V R I0 J0=>law1_AreAll_v0 p0 p1 V R I0 J0 (law1_AreAll_sk.eq_1 ..)
end Go.Proofs.YtfdaofhjkdabbaaGreat
