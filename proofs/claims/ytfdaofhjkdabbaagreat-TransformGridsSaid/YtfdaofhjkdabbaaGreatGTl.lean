/- Part of the proof; it has the parts GTl. -/
import Derived.Test.YtfdaofhjkdabbaaGreatGBld
set_option maxRecDepth 100000
set_option maxHeartbeats 4000000
namespace Go.Proofs.YtfdaofhjkdabbaaGreat
open Go Go.Vc Go.Proofs
open Go.IntKind (i8 i16 i32 i64 u8 u16 u32 u64)
structure L_waveportlaw07_refRows_0 where
 t11:Int
 o8:List Value
def waveportlaw07_refRows_f0 (p0:Sl) (_c:Unit) (w x:L_waveportlaw07_refRows_0):Prop:=(Q1 (.osl 8 0 (Int.toNat (p0.len:Int)) (Int.toNat (p0.len:Int)))∧Q1 (.val (p0.v))∧Q1 (.val (.int .i64 (p0.len:Int)))∧E2 (.val (.int .i64 w.t11)) (.val (.int .i64 x.t11))∧True)∧(O2 ⟨50,.dyn w.o8⟩ ⟨50,.dyn x.o8⟩∧True)
def waveportlaw07_refRows_sk (p0:Sl) (V:View) (R:Value→View→Prop) (I0:Unit→L_waveportlaw07_refRows_0→View→Prop) (E0:Unit→L_waveportlaw07_refRows_0→View→Prop) (B0:Unit→L_waveportlaw07_refRows_0→View→L_waveportlaw07_refRows_0→View→Prop):Prop :=
 ((0:Int)≤(p0.len:Int)∧((p0.len:Int):Int)≤(p0.len:Int)∧(24:Int)*(p0.len:Int)≤281474976710656∧((p0.len:Int):Int)≤9223372036854775807) ∧
 E0 () (L_waveportlaw07_refRows_0.mk 0 ((List.replicate (Int.toNat (p0.len:Int)) [Value.slice none 0 0]).flatten)) V ∧
 (∀(x2:L_waveportlaw07_refRows_0) (V1:View),View.le V V1→I0 () x2 V1 →
 ((decide ((x2.t11:Int)<(p0.len:Int)))=true →
 ((0:Int)≤x2.t11∧(x2.t11:Int)<(p0.len:Nat)∧Option.isSome p0.a=true) ∧
 ∃x3:Sl,View.load V1 (Option.map (fun q=>Addr.add q (Int.toNat x2.t11*1)) p0.a)=some (x3.v) ∧
 CallV Tryz.prog 25 #[x3.v] V1 fun v V2=>∃r1:Sl,v=r1.v ∧
 ((0:Int)≤x2.t11∧(x2.t11:Int)<(Int.toNat (p0.len:Int):Nat)) ∧
 0+Int.toNat x2.t11*1+1≤List.length x2.o8 ∧
 B0 () (L_waveportlaw07_refRows_0.mk (i64.wrap (x2.t11+1)) (List.set x2.o8 (0+Int.toNat x2.t11*1) (r1.v))) V2 x2 V1) ∧
 ((decide ((x2.t11:Int)<(p0.len:Int)))=false →
 ∀(b1:Nat) (V3:View),View.le V1 V3→V3 b1=some (List.toArray x2.o8) →
 R ((Sl.mk (some (Addr.mk b1 0 none)) (Int.toNat (p0.len:Int)) (Int.toNat (p0.len:Int))).v) V3))
theorem waveportlaw07_refRows_v0 (p0:Sl) (V:View) (R:Value→View→Prop) (I0:Unit→L_waveportlaw07_refRows_0→View→Prop) (J0:Unit→L_waveportlaw07_refRows_0→View→Nat) {X:Prop} (e:waveportlaw07_refRows_sk p0 V R I0 I0 (fun c w V x U=>I0 c w V∧J0 c w V<J0 c x U)=X) (h:X) :
 CallV Tryz.prog 15 #[p0.v] V R :=
 calls_of_vc (Shp:=Shp) hmixed Tryz.func15 (c:=Tryz.f15.body.getD .skip) (args:=[p0.v]) (by kernel_rfl)
 (.seq (.reg [A 2 2]) (.seq (.reg [A 6 2,A 7 0,A 8 3,A 3 2]) (.seq (.seq (.reg [A 9 2,A 10 0,A 11 2]) (.block (.loop Unit L_waveportlaw07_refRows_0 (fun _=>()) (fun c x=>{ tm:=spT 23 0 [(3,.osl 8 0 (Int.toNat (p0.len:Int)) (Int.toNat (p0.len:Int))),(9,.val (p0.v)),(10,.val (.int .i64 (p0.len:Int))),(11,.val (.int .i64 x.t11))],own:=spO 23 0 [(8,⟨50,.dyn x.o8⟩)] }) I0 J0 (.seq (.reg [A 12 0]) (.seq (.cond .leaf .leaf) (.seq (.block (.seq (.reg [A 13 2,A 14 7,A 15 5,A 4 2,A 5 2]) (.reg [A 16 2,A 17 2,A 18 2,A 19 10,A 20 7,A 8 6]))) (.reg [A 21 0,A 11 2]))))))) (.seq (.reg [A 22 2,A 2 2]) (.pub 8 .leaf)))))
 (Eq.mpr (by kernel_rfl) (show waveportlaw07_refRows_sk p0 V R I0 (fun c w V=>∃x,waveportlaw07_refRows_f0 p0 c w x∧I0 c x V) (fun c w V y U=>∃x,waveportlaw07_refRows_f0 p0 c w x∧I0 c x V∧J0 c x V<J0 c y U)from by
 have h:=Eq.mpr e h; unfold waveportlaw07_refRows_sk at h ⊢; have Ee0:=fun c w V (h:I0 c w V)=>(⟨w,⟨⟨rfl,rfl,rfl,rfl,trivial⟩,⟨rfl,trivial⟩⟩,h⟩:∃x,waveportlaw07_refRows_f0 p0 c w x∧I0 c x V); have Bb0:=fun c w V y U (h:I0 c w V∧J0 c w V<J0 c y U)=>(⟨w,⟨⟨rfl,rfl,rfl,rfl,trivial⟩,⟨rfl,trivial⟩⟩,h⟩:∃x,waveportlaw07_refRows_f0 p0 c w x∧I0 c x V∧J0 c x V<J0 c y U); exact⟨h.1,⟨(Ee0 _ _ _ h.2.1),fun x2 V1 h8 h9=>⟨fun h7=>⟨((h.2.2 x2 V1 h8 h9).1 h7).1,(match ((h.2.2 x2 V1 h8 h9).1 h7).2 with|⟨x3,h4,h3⟩=>⟨x3,h4,(CallV.mono h3 (fun _ _ _ ⟨r1,h2,h1⟩=>⟨r1,h2,⟨h1.1,⟨h1.2.1,(Bb0 _ _ _ _ _ h1.2.2)⟩⟩⟩))⟩)⟩,fun h7=>(fun b1 V3 h5 h6=>(((h.2.2 x2 V1 h8 h9).2 h7) b1 V3 h5 h6))⟩⟩⟩))
theorem waveportlaw07_refRows_vc:type_of% (fun p0 V R I0 J0=>waveportlaw07_refRows_v0 p0 V R I0 J0 (waveportlaw07_refRows_sk.eq_1 ..)):=fun p0 V R I0 J0=>waveportlaw07_refRows_v0 p0 V R I0 J0 (waveportlaw07_refRows_sk.eq_1 ..)
structure L_waveportlaw07_is_0 where
 u:Unit
structure L_waveportlaw07_is_1 where
 t49:Int
structure L_waveportlaw07_is_2 where
 u:Unit
structure C_waveportlaw07_is_2 where
 t7:Int
 t8:Sl
 t49:Int
structure L_waveportlaw07_is_3 where
 t70:Int
structure C_waveportlaw07_is_3 where
 t7:Int
 t49:Int
 t68:Sl
 t69:Int
def waveportlaw07_is_f0 (p0:GridV) (p1:GridV) (_c:Unit) (_w _x:L_waveportlaw07_is_0):Prop:=(Q1 (.own 2 0)∧Q1 (.own 3 0)∧True)∧(O2 ⟨27,.fixed [.val (p0.rows.v)]⟩ ⟨27,.fixed [.val (p0.rows.v)]⟩∧O2 ⟨40,.fixed [.val (p1.rows.v)]⟩ ⟨40,.fixed [.val (p1.rows.v)]⟩∧True)
def waveportlaw07_is_f1 (p0:GridV) (p1:GridV) (_c:Unit) (w x:L_waveportlaw07_is_1):Prop:=(Q1 (.own 2 0)∧Q1 (.val (p1.rows.v))∧Q1 (.val (.int .i64 (p1.rows.len:Int)))∧E2 (.val (.int .i64 w.t49)) (.val (.int .i64 x.t49))∧True)∧(O2 ⟨27,.fixed [.val (p0.rows.v)]⟩ ⟨27,.fixed [.val (p0.rows.v)]⟩∧True)
def waveportlaw07_is_f2 (p0:GridV) (p1:GridV) (c:C_waveportlaw07_is_2) (_w _x:L_waveportlaw07_is_2):Prop:=(Q1 (.own 2 0)∧Q1 (.val (.int .i64 c.t7))∧Q1 (.val (c.t8.v))∧Q1 (.val (p1.rows.v))∧Q1 (.val (.int .i64 (p1.rows.len:Int)))∧Q1 (.val (.int .i64 c.t49))∧True)∧(O2 ⟨27,.fixed [.val (p0.rows.v)]⟩ ⟨27,.fixed [.val (p0.rows.v)]⟩∧True)
def waveportlaw07_is_f3 (p0:GridV) (p1:GridV) (c:C_waveportlaw07_is_3) (w x:L_waveportlaw07_is_3):Prop:=(Q1 (.own 2 0)∧Q1 (.val (.int .i64 c.t7))∧Q1 (.val (p1.rows.v))∧Q1 (.val (.int .i64 (p1.rows.len:Int)))∧Q1 (.val (.int .i64 c.t49))∧Q1 (.val (c.t68.v))∧Q1 (.val (.int .i64 c.t69))∧E2 (.val (.int .i64 w.t70)) (.val (.int .i64 x.t70))∧True)∧(O2 ⟨27,.fixed [.val (p0.rows.v)]⟩ ⟨27,.fixed [.val (p0.rows.v)]⟩∧True)
def waveportlaw07_is_sk (p0:GridV) (p1:GridV) (V:View) (R:Value→View→Prop) (I0:Unit→L_waveportlaw07_is_0→View→Prop) (I1:Unit→L_waveportlaw07_is_1→View→Prop) (I2:C_waveportlaw07_is_2→L_waveportlaw07_is_2→View→Prop) (I3:C_waveportlaw07_is_3→L_waveportlaw07_is_3→View→Prop) (E0:Unit→L_waveportlaw07_is_0→View→Prop) (E1:Unit→L_waveportlaw07_is_1→View→Prop) (B1:Unit→L_waveportlaw07_is_1→View→L_waveportlaw07_is_1→View→Prop) (E2:C_waveportlaw07_is_2→L_waveportlaw07_is_2→View→Prop) (E3:C_waveportlaw07_is_3→L_waveportlaw07_is_3→View→Prop) (B3:C_waveportlaw07_is_3→L_waveportlaw07_is_3→View→L_waveportlaw07_is_3→View→Prop):Prop :=
 CallV Tryz.prog 109 #[p0.val] V fun v V1=>∃(r1:Int) (r2:Int),v = .tuple #[.int .i64 r1,.int .i64 r2] ∧
 ((((r1:Int) != (p1.rows.len:Int))=true →
 R (.bool false) V1) ∧
 (((r1:Int) != (p1.rows.len:Int))=false →
 ((decide ((r1:Int)>0))=true →
 ((0:Int)≤0∧(0:Int)<(p1.rows.len:Nat)∧Option.isSome p1.rows.a=true) ∧
 ∃x2:Sl,View.load V1 (Option.map (fun q=>Addr.add q (Int.toNat 0*1)) p1.rows.a)=some (x2.v) ∧
 (((r2:Int) != (x2.len:Int))=true →
 R (.bool false) V1) ∧
 (((r2:Int) != (x2.len:Int))=false →
 (((r1:Int)==0)=true →
 (((r2:Int) != 0)=true →
 R (.bool false) V1) ∧
 (((r2:Int) != 0)=false →
 E0 () (L_waveportlaw07_is_0.mk ()) V1)) ∧
 (((r1:Int)==0)=false →
 E0 () (L_waveportlaw07_is_0.mk ()) V1))) ∧
 ((decide ((r1:Int)>0))=false →
 (((r1:Int)==0)=true →
 (((r2:Int) != 0)=true →
 R (.bool false) V1) ∧
 (((r2:Int) != 0)=false →
 E0 () (L_waveportlaw07_is_0.mk ()) V1)) ∧
 (((r1:Int)==0)=false →
 E0 () (L_waveportlaw07_is_0.mk ()) V1)))) ∧
 (∀(x1:L_waveportlaw07_is_0) (V2:View),View.le V1 V2→I0 () x1 V2 →
 E1 () (L_waveportlaw07_is_1.mk 0) V2 ∧
 (∀(x8:L_waveportlaw07_is_1) (V3:View),View.le V2 V3→I1 () x8 V3 →
 ((decide ((x8.t49:Int)<(p1.rows.len:Int)))=true →
 ((0:Int)≤x8.t49∧(x8.t49:Int)<(p1.rows.len:Nat)∧Option.isSome p1.rows.a=true) ∧
 ∃x9:Sl,View.load V3 (Option.map (fun q=>Addr.add q (Int.toNat x8.t49*1)) p1.rows.a)=some (x9.v) ∧
 CallV Tryz.prog 19 #[p0.val,.int .i64 x8.t49] V3 fun v V4=>∃(r3:Sl) (r4:Int),v = .tuple #[r3.v,.int .i64 r4] ∧
 ((((r4:Int) != 0)=true →
 R (.bool false) V4) ∧
 (((r4:Int) != 0)=false →
 CallV Tryz.prog 110 #[r3.v,x9.v] V4 fun v V6=>∃r5:Bool,v = .bool r5 ∧
 ((!r5)=true →
 R (.bool false) V6) ∧
 ((!r5)=false →
 E2 (C_waveportlaw07_is_2.mk x8.t49 x9 x8.t49) (L_waveportlaw07_is_2.mk ()) V6))) ∧
 (∀(x10:L_waveportlaw07_is_2) (V5:View),View.le V4 V5→I2 (C_waveportlaw07_is_2.mk x8.t49 x9 x8.t49) x10 V5 →
 E3 (C_waveportlaw07_is_3.mk x8.t49 x8.t49 x9 (x9.len:Int)) (L_waveportlaw07_is_3.mk 0) V5 ∧
 (∀(x13:L_waveportlaw07_is_3) (V7:View),View.le V5 V7→I3 (C_waveportlaw07_is_3.mk x8.t49 x8.t49 x9 (x9.len:Int)) x13 V7 →
 ((decide ((x13.t70:Int)<(x9.len:Int)))=true →
 ((0:Int)≤x13.t70∧(x13.t70:Int)<(x9.len:Nat)∧Option.isSome x9.a=true) ∧
 ∃x14:NumV,View.has V7 (Option.map (fun q=>Addr.add q (Int.toNat x13.t70*5)) x9.a) (x14.val).cells.toList∧Option.isSome (Option.map (fun q=>Addr.add q (Int.toNat x13.t70*5)) x9.a)=true ∧
 CallV Tryz.prog 20 #[p0.val,.int .i64 x8.t49,.int .i64 x13.t70] V7 fun v V8=>∃(r6:NumV) (r7:Int),v = .tuple #[r6.val,.int .i64 r7] ∧
 (((r7:Int) != 0)=true →
 R (.bool false) V8) ∧
 (((r7:Int) != 0)=false →
 CallV Tryz.prog 111 #[r6.val,x14.val] V8 fun v V9=>∃r8:Bool,v = .bool r8 ∧
 ((!r8)=true →
 R (.bool false) V9) ∧
 ((!r8)=false →
 B3 (C_waveportlaw07_is_3.mk x8.t49 x8.t49 x9 (x9.len:Int)) (L_waveportlaw07_is_3.mk (i64.wrap (x13.t70+1))) V9 x13 V7))) ∧
 ((decide ((x13.t70:Int)<(x9.len:Int)))=false →
 B1 () (L_waveportlaw07_is_1.mk (i64.wrap (x8.t49+1))) V7 x8 V3)))) ∧
 ((decide ((x8.t49:Int)<(p1.rows.len:Int)))=false →
 R (.bool true) V3)))
theorem waveportlaw07_is_v0 (p0:GridV) (p1:GridV) (V:View) (R:Value→View→Prop) (I0:Unit→L_waveportlaw07_is_0→View→Prop) (I1:Unit→L_waveportlaw07_is_1→View→Prop) (J1:Unit→L_waveportlaw07_is_1→View→Nat) (I2:C_waveportlaw07_is_2→L_waveportlaw07_is_2→View→Prop) (I3:C_waveportlaw07_is_3→L_waveportlaw07_is_3→View→Prop) (J3:C_waveportlaw07_is_3→L_waveportlaw07_is_3→View→Nat) {X:Prop} (e:waveportlaw07_is_sk p0 p1 V R I0 I1 I2 I3 I0 I1 (fun c w V x U=>I1 c w V∧J1 c w V<J1 c x U) I2 I3 (fun c w V x U=>I3 c w V∧J3 c w V<J3 c x U)=X) (h:X) :
 CallV Tryz.prog 16 #[p0.val,p1.val] V R :=
 calls_of_vc (Shp:=Shp) hmixed Tryz.func16 (c:=Tryz.f16.body.getD .skip) (args:=[p0.val,p1.val]) (by kernel_rfl)
 (.seq (.reg [A 2 3,A 3 3,A 4 9]) (.seq (.reg [A 2 4,A 17 10,A 15 2,A 18 0,A 19 0,A 5 2,A 6 2]) (.cut Unit L_waveportlaw07_is_0 (fun _=>()) (fun c x=>{ tm:=spT 92 0 [(2,.own 2 0),(3,.own 3 0)],own:=spO 92 0 [(2,⟨27,.fixed [.val (p0.rows.v)]⟩),(3,⟨40,.fixed [.val (p1.rows.v)]⟩)] }) I0 (.seq (.reg [A 20 2,A 21 7,A 3 4,A 23 0,A 24 0,⟨25,2,true⟩,A 26 2,A 27 0,⟨28,2,true⟩,A 29 2,A 30 7,A 3 4,A 32 7,A 33 5,A 34 0,A 35 0,A 36 20,A 37 20,⟨38,2,true⟩,A 39 2,A 40 0,⟨41,2,true⟩,A 42 2,A 43 0,A 44 20,A 45 20]) (.cond (.seq (.reg [A 4 9]) .leaf) .leaf)) (.seq (.seq (.reg [A 46 7,A 3 4,A 48 0,A 49 2]) (.block (.loop Unit L_waveportlaw07_is_1 (fun _=>()) (fun c x=>{ tm:=spT 92 0 [(2,.own 2 0),(47,.val (p1.rows.v)),(48,.val (.int .i64 (p1.rows.len:Int))),(49,.val (.int .i64 x.t49))],own:=spO 92 0 [(2,⟨27,.fixed [.val (p0.rows.v)]⟩)] }) I1 J1 (.seq (.reg [A 50 0]) (.seq (.cond .leaf .leaf) (.seq (.block (.seq (.reg [A 51 2,A 52 7,A 53 5,A 7 2,A 8 2]) (.seq (.reg [A 2 4,A 56 2,A 57 10,A 54 2,A 58 0,A 59 0,A 9 2,A 10 2]) (.cut C_waveportlaw07_is_2 L_waveportlaw07_is_2 (fun σ=>C_waveportlaw07_is_2.mk (gInt (gTm σ 7)) (Sl.mk (gSlA (gTm σ 8)) (gSlL (gTm σ 8)) (gSlC (gTm σ 8))) (gInt (gTm σ 49))) (fun c x=>{ tm:=spT 92 0 [(2,.own 2 0),(7,.val (.int .i64 c.t7)),(8,.val (c.t8.v)),(47,.val (p1.rows.v)),(48,.val (.int .i64 (p1.rows.len:Int))),(49,.val (.int .i64 c.t49))],own:=spO 92 0 [(2,⟨27,.fixed [.val (p0.rows.v)]⟩)] }) I2 (.seq (.reg [A 60 2,A 61 0,⟨62,2,true⟩,A 63 2,A 64 2,A 65 10,A 66 20,A 67 20]) (.cond (.seq (.reg [A 4 9]) .leaf) .leaf)) (.seq (.reg [A 68 2,A 69 0,A 70 2]) (.block (.loop C_waveportlaw07_is_3 L_waveportlaw07_is_3 (fun σ=>C_waveportlaw07_is_3.mk (gInt (gTm σ 7)) (gInt (gTm σ 49)) (Sl.mk (gSlA (gTm σ 68)) (gSlL (gTm σ 68)) (gSlC (gTm σ 68))) (gInt (gTm σ 69))) (fun c x=>{ tm:=spT 92 0 [(2,.own 2 0),(7,.val (.int .i64 c.t7)),(47,.val (p1.rows.v)),(48,.val (.int .i64 (p1.rows.len:Int))),(49,.val (.int .i64 c.t49)),(68,.val (c.t68.v)),(69,.val (.int .i64 c.t69)),(70,.val (.int .i64 x.t70))],own:=spO 92 0 [(2,⟨27,.fixed [.val (p0.rows.v)]⟩)] }) I3 J3 (.seq (.reg [A 71 0]) (.seq (.cond .leaf .leaf) (.seq (.block (.seq (.reg [A 72 2,A 73 7,A 74 5,A 12 3,A 11 2,A 12 6]) (.seq (.reg [A 2 4,A 77 2,A 78 2,A 79 10,A 75 2,A 80 0,A 81 0,A 13 3,A 13 6,A 14 2]) (.seq (.reg [A 82 2,A 83 0,⟨84,2,true⟩,A 13 4,A 12 4,A 87 10,A 88 20,A 89 20]) (.cond (.seq (.reg [A 4 9]) .leaf) .leaf))))) (.reg [A 90 0,A 70 2]))))))))))) (.reg [A 91 0,A 49 2]))))))) (.seq (.reg [A 4 9]) .leaf)))))
 (Eq.mpr (by kernel_rfl) (show waveportlaw07_is_sk p0 p1 V R I0 I1 I2 I3 (fun c w V=>∃x,waveportlaw07_is_f0 p0 p1 c w x∧I0 c x V) (fun c w V=>∃x,waveportlaw07_is_f1 p0 p1 c w x∧I1 c x V) (fun c w V y U=>∃x,waveportlaw07_is_f1 p0 p1 c w x∧I1 c x V∧J1 c x V<J1 c y U) (fun c w V=>∃x,waveportlaw07_is_f2 p0 p1 c w x∧I2 c x V) (fun c w V=>∃x,waveportlaw07_is_f3 p0 p1 c w x∧I3 c x V) (fun c w V y U=>∃x,waveportlaw07_is_f3 p0 p1 c w x∧I3 c x V∧J3 c x V<J3 c y U)from by
 have h:=Eq.mpr e h; unfold waveportlaw07_is_sk at h ⊢; have Ee0:=fun c w V (h:I0 c w V)=>(⟨w,⟨⟨rfl,rfl,trivial⟩,⟨rfl,rfl,trivial⟩⟩,h⟩:∃x,waveportlaw07_is_f0 p0 p1 c w x∧I0 c x V); have Ee1:=fun c w V (h:I1 c w V)=>(⟨w,⟨⟨rfl,rfl,rfl,rfl,trivial⟩,⟨rfl,trivial⟩⟩,h⟩:∃x,waveportlaw07_is_f1 p0 p1 c w x∧I1 c x V); have Bb1:=fun c w V y U (h:I1 c w V∧J1 c w V<J1 c y U)=>(⟨w,⟨⟨rfl,rfl,rfl,rfl,trivial⟩,⟨rfl,trivial⟩⟩,h⟩:∃x,waveportlaw07_is_f1 p0 p1 c w x∧I1 c x V∧J1 c x V<J1 c y U); have Ee2:=fun c w V (h:I2 c w V)=>(⟨w,⟨⟨rfl,rfl,rfl,rfl,rfl,rfl,trivial⟩,⟨rfl,trivial⟩⟩,h⟩:∃x,waveportlaw07_is_f2 p0 p1 c w x∧I2 c x V); have Ee3:=fun c w V (h:I3 c w V)=>(⟨w,⟨⟨rfl,rfl,rfl,rfl,rfl,rfl,rfl,rfl,trivial⟩,⟨rfl,trivial⟩⟩,h⟩:∃x,waveportlaw07_is_f3 p0 p1 c w x∧I3 c x V); have Bb3:=fun c w V y U (h:I3 c w V∧J3 c w V<J3 c y U)=>(⟨w,⟨⟨rfl,rfl,rfl,rfl,rfl,rfl,rfl,rfl,trivial⟩,⟨rfl,trivial⟩⟩,h⟩:∃x,waveportlaw07_is_f3 p0 p1 c w x∧I3 c x V∧J3 c x V<J3 c y U); exact(CallV.mono h (fun _ _ _ ⟨r1,r2,h38,h37⟩=>⟨r1,r2,h38,⟨⟨fun h9=>(h37.1.1 h9),fun h9=>⟨fun h8=>⟨((h37.1.2 h9).1 h8).1,(match ((h37.1.2 h9).1 h8).2 with|⟨x2,h5,h4⟩=>⟨x2,h5,⟨fun h3=>(h4.1 h3),fun h3=>⟨fun h2=>⟨fun h1=>(((h4.2 h3).1 h2).1 h1),fun h1=>(Ee0 _ _ _ (((h4.2 h3).1 h2).2 h1))⟩,fun h2=>(Ee0 _ _ _ ((h4.2 h3).2 h2))⟩⟩⟩)⟩,fun h8=>⟨fun h7=>⟨fun h6=>((((h37.1.2 h9).2 h8).1 h7).1 h6),fun h6=>(Ee0 _ _ _ ((((h37.1.2 h9).2 h8).1 h7).2 h6))⟩,fun h7=>(Ee0 _ _ _ (((h37.1.2 h9).2 h8).2 h7))⟩⟩⟩,fun x1 V2 h35 h36=>⟨(Ee1 _ _ _ (h37.2 x1 V2 h35 h36).1),fun x8 V3 h33 h34=>⟨fun h32=>⟨(((h37.2 x1 V2 h35 h36).2 x8 V3 h33 h34).1 h32).1,(match (((h37.2 x1 V2 h35 h36).2 x8 V3 h33 h34).1 h32).2 with|⟨x9,h31,h30⟩=>⟨x9,h31,(CallV.mono h30 (fun _ _ _ ⟨r3,r4,h29,h28⟩=>⟨r3,r4,h29,⟨⟨fun h13=>(h28.1.1 h13),fun h13=>(CallV.mono (h28.1.2 h13) (fun _ _ _ ⟨r5,h12,h11⟩=>⟨r5,h12,⟨fun h10=>(h11.1 h10),fun h10=>(Ee2 _ _ _ (h11.2 h10))⟩⟩))⟩,fun x10 V5 h26 h27=>⟨(Ee3 _ _ _ (h28.2 x10 V5 h26 h27).1),fun x13 V7 h24 h25=>⟨fun h23=>⟨(((h28.2 x10 V5 h26 h27).2 x13 V7 h24 h25).1 h23).1,(match (((h28.2 x10 V5 h26 h27).2 x13 V7 h24 h25).1 h23).2 with|⟨x14,h21,h22,h20⟩=>⟨x14,h21,h22,(CallV.mono h20 (fun _ _ _ ⟨r6,r7,h19,h18⟩=>⟨r6,r7,h19,⟨fun h17=>(h18.1 h17),fun h17=>(CallV.mono (h18.2 h17) (fun _ _ _ ⟨r8,h16,h15⟩=>⟨r8,h16,⟨fun h14=>(h15.1 h14),fun h14=>(Bb3 _ _ _ _ _ (h15.2 h14))⟩⟩))⟩⟩))⟩)⟩,fun h23=>(Bb1 _ _ _ _ _ (((h28.2 x10 V5 h26 h27).2 x13 V7 h24 h25).2 h23))⟩⟩⟩⟩))⟩)⟩,fun h32=>(((h37.2 x1 V2 h35 h36).2 x8 V3 h33 h34).2 h32)⟩⟩⟩⟩))))
theorem waveportlaw07_is_vc:type_of% (fun p0 p1 V R I0 I1 J1 I2 I3 J3=>waveportlaw07_is_v0 p0 p1 V R I0 I1 J1 I2 I3 J3 (waveportlaw07_is_sk.eq_1 ..)):=fun p0 p1 V R I0 I1 J1 I2 I3 J3=>waveportlaw07_is_v0 p0 p1 V R I0 I1 J1 I2 I3 J3 (waveportlaw07_is_sk.eq_1 ..)
end Go.Proofs.YtfdaofhjkdabbaaGreat
