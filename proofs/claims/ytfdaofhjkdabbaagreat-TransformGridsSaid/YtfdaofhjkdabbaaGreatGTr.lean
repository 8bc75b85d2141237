/- Part of the proof; it has the parts GTr. -/
import Derived.Test.YtfdaofhjkdabbaaGreatFFor
set_option maxRecDepth 100000
set_option maxHeartbeats 4000000
namespace Go.Proofs.YtfdaofhjkdabbaaGreat
open Go Go.Vc Go.Proofs
open Go.IntKind (i8 i16 i32 i64 u8 u16 u32 u64)
structure L_waveportref07_Turned_0 where
 t4:Int
 o0:View
 o2:GridV
structure C_waveportref07_Turned_0 where
 o3_0:Sl
structure L_waveportref07_Turned_1 where
 t5:Int
 o0:View
structure C_waveportref07_Turned_1 where
 t4:Int
 o2_0:Sl
 o3_0:Sl
def waveportref07_Turned_f0 (p0:GridV) (c:C_waveportref07_Turned_0) (w x:L_waveportref07_Turned_0):Prop:=(Q1 (.own 1 0)∧Q1 (.own 2 0)∧Q1 (.own 3 0)∧E2 (.val (.int .i64 w.t4)) (.val (.int .i64 x.t4))∧True)∧(O2 ⟨0,.reg w.o0⟩ ⟨0,.reg x.o0⟩∧O2 ⟨40,.fixed [.val (p0.rows.v)]⟩ ⟨40,.fixed [.val (p0.rows.v)]⟩∧O2 ⟨40,.fixed [.val (w.o2.rows.v)]⟩ ⟨40,.fixed [.val (x.o2.rows.v)]⟩∧O2 ⟨40,.fixed [.val (c.o3_0.v)]⟩ ⟨40,.fixed [.val (c.o3_0.v)]⟩∧True)
def waveportref07_Turned_f1 (p0:GridV) (c:C_waveportref07_Turned_1) (w x:L_waveportref07_Turned_1):Prop:=(Q1 (.own 1 0)∧Q1 (.own 2 0)∧Q1 (.own 3 0)∧Q1 (.val (.int .i64 c.t4))∧E2 (.val (.int .i64 w.t5)) (.val (.int .i64 x.t5))∧True)∧(O2 ⟨0,.reg w.o0⟩ ⟨0,.reg x.o0⟩∧O2 ⟨40,.fixed [.val (p0.rows.v)]⟩ ⟨40,.fixed [.val (p0.rows.v)]⟩∧O2 ⟨40,.fixed [.val (c.o2_0.v)]⟩ ⟨40,.fixed [.val (c.o2_0.v)]⟩∧O2 ⟨40,.fixed [.val (c.o3_0.v)]⟩ ⟨40,.fixed [.val (c.o3_0.v)]⟩∧True)
def waveportref07_Turned_sk (p0:GridV) (V:View) (R:Value→View→Prop) (I0:C_waveportref07_Turned_0→L_waveportref07_Turned_0→View→Prop) (I1:C_waveportref07_Turned_1→L_waveportref07_Turned_1→View→Prop) (E0:C_waveportref07_Turned_0→L_waveportref07_Turned_0→View→Prop) (B0:C_waveportref07_Turned_0→L_waveportref07_Turned_0→View→L_waveportref07_Turned_0→View→Prop) (E1:C_waveportref07_Turned_1→L_waveportref07_Turned_1→View→Prop) (B1:C_waveportref07_Turned_1→L_waveportref07_Turned_1→View→L_waveportref07_Turned_1→View→Prop):Prop :=
 ((((p0.rows.len:Int):Int)==0)=true →
 ((0:Nat)≠1) ∧
 ∀(V1:View),View.le V V1→(∀(b:Nat) (cs:Array Value),(fun _=>none:View) b=some cs→V1 b=some cs) →
 R (p0.val) V1) ∧
 ((((p0.rows.len:Int):Int)==0)=false →
 ((0:Int)≤0∧(0:Int)<(p0.rows.len:Nat)∧Option.isSome p0.rows.a=true) ∧
 ∃x1:Sl,load2 (fun _=>none:View) V (Option.map (fun q=>Addr.add q (Int.toNat 0*1)) p0.rows.a) (x1.v) ∧
 ((0:Int)≤(x1.len:Int)∧((x1.len:Int):Int)≤(x1.len:Int)∧(24:Int)*(x1.len:Int)≤281474976710656∧((x1.len:Int):Int)≤9223372036854775807) ∧
 ∀(b2:Nat),(fun _=>none:View) b2=none→V b2=none →
 E0 (C_waveportref07_Turned_0.mk (Sl.mk (some (Addr.mk b2 0 none)) (Int.toNat (x1.len:Int)) (Int.toNat (x1.len:Int)))) (L_waveportref07_Turned_0.mk 0 (View.upd (fun _=>none:View) b2 (List.toArray (List.replicate (Int.toNat (x1.len:Int)) [Value.slice none 0 0]).flatten)) (GridV.mk (Sl.mk none 0 0))) V ∧
 (∀(x3:L_waveportref07_Turned_0) (V2:View),View.le V V2→I0 (C_waveportref07_Turned_0.mk (Sl.mk (some (Addr.mk b2 0 none)) (Int.toNat (x1.len:Int)) (Int.toNat (x1.len:Int)))) x3 V2 →
 ((decide ((x3.t4:Int)<((Int.toNat (x1.len:Int):Nat):Int)))=true →
 ((0:Int)≤(p0.rows.len:Int)∧((p0.rows.len:Int):Int)≤(p0.rows.len:Int)∧(88:Int)*(p0.rows.len:Int)≤281474976710656∧((p0.rows.len:Int):Int)≤9223372036854775807) ∧
 ∀(b3:Nat),x3.o0 b3=none→V2 b3=none →
 ((0:Int)≤x3.t4∧(x3.t4:Int)<((Int.toNat (x1.len:Int)):Nat)∧Option.isSome (some (Addr.mk b2 0 none))=true) ∧
 ∃(b4:Nat) (c1:Nat) (l2:List Value),(Option.map (fun q=>Addr.add q (Int.toNat x3.t4*1)) (some (Addr.mk b2 0 none)))=some (Addr.mk b4 c1 none)∧(View.upd x3.o0 b3 (List.toArray (List.replicate (Int.toNat (p0.rows.len:Int)) [Value.bool false,Value.slice none 0 0,Value.bool false,Value.slice none 0 0,Value.slice none 0 0]).flatten)) b4=some (List.toArray l2)∧c1+1≤List.length l2 ∧
 E1 (C_waveportref07_Turned_1.mk x3.t4 x3.o2.rows (Sl.mk (some (Addr.mk b2 0 none)) (Int.toNat (x1.len:Int)) (Int.toNat (x1.len:Int)))) (L_waveportref07_Turned_1.mk 0 (View.upd (View.upd x3.o0 b3 (List.toArray (List.replicate (Int.toNat (p0.rows.len:Int)) [Value.bool false,Value.slice none 0 0,Value.bool false,Value.slice none 0 0,Value.slice none 0 0]).flatten)) b4 (List.toArray (setL l2 c1 [.slice (some (Addr.mk b3 0 none)) (Int.toNat (p0.rows.len:Int)) (Int.toNat (p0.rows.len:Int))])))) V2 ∧
 (∀(x5:L_waveportref07_Turned_1) (V3:View),View.le V2 V3→I1 (C_waveportref07_Turned_1.mk x3.t4 x3.o2.rows (Sl.mk (some (Addr.mk b2 0 none)) (Int.toNat (x1.len:Int)) (Int.toNat (x1.len:Int)))) x5 V3 →
 ((decide ((x5.t5:Int)<(p0.rows.len:Int)))=true →
 ((0:Int)≤x3.t4∧(x3.t4:Int)<((Int.toNat (x1.len:Int)):Nat)∧Option.isSome (some (Addr.mk b2 0 none))=true) ∧
 ∃x6:Sl,load2 x5.o0 V3 (Option.map (fun q=>Addr.add q (Int.toNat x3.t4*1)) (some (Addr.mk b2 0 none))) (x6.v) ∧
 ((0:Int)≤x5.t5∧(x5.t5:Int)<(p0.rows.len:Nat)∧Option.isSome p0.rows.a=true) ∧
 ∃x7:Sl,load2 x5.o0 V3 (Option.map (fun q=>Addr.add q (Int.toNat x5.t5*1)) p0.rows.a) (x7.v) ∧
 ((0:Int)≤x3.t4∧(x3.t4:Int)<(x7.len:Nat)∧Option.isSome x7.a=true) ∧
 ∃x8:NumV,has2 x5.o0 V3 (Option.map (fun q=>Addr.add q (Int.toNat x3.t4*5)) x7.a) (x8.val).cells.toList∧Option.isSome (Option.map (fun q=>Addr.add q (Int.toNat x3.t4*5)) x7.a)=true ∧
 ((0:Int)≤x5.t5∧(x5.t5:Int)<(x6.len:Nat)∧Option.isSome x6.a=true) ∧
 ∃(b5:Nat) (c2:Nat) (l3:List Value),(Option.map (fun q=>Addr.add q (Int.toNat x5.t5*5)) x6.a)=some (Addr.mk b5 c2 none)∧x5.o0 b5=some (List.toArray l3)∧c2+5≤List.length l3 ∧
 B1 (C_waveportref07_Turned_1.mk x3.t4 x3.o2.rows (Sl.mk (some (Addr.mk b2 0 none)) (Int.toNat (x1.len:Int)) (Int.toNat (x1.len:Int)))) (L_waveportref07_Turned_1.mk (i64.wrap (x5.t5+1)) (View.upd x5.o0 b5 (List.toArray (setL l3 c2 [.bool x8.re.neg,x8.re.mag.v,.bool x8.im.neg,x8.im.mag.v,x8.under.v])))) V3 x5 V3) ∧
 ((decide ((x5.t5:Int)<(p0.rows.len:Int)))=false →
 B0 (C_waveportref07_Turned_0.mk (Sl.mk (some (Addr.mk b2 0 none)) (Int.toNat (x1.len:Int)) (Int.toNat (x1.len:Int)))) (L_waveportref07_Turned_0.mk (i64.wrap (x3.t4+1)) x5.o0 x3.o2) V3 x3 V2))) ∧
 ((decide ((x3.t4:Int)<((Int.toNat (x1.len:Int):Nat):Int)))=false →
 ((0:Nat)≠1) ∧
 ∀(V4:View),View.le V2 V4→(∀(b:Nat) (cs:Array Value),x3.o0 b=some cs→V4 b=some cs) →
 R ((GridV.mk (Sl.mk (some (Addr.mk b2 0 none)) (Int.toNat (x1.len:Int)) (Int.toNat (x1.len:Int)))).val) V4)))
theorem waveportref07_Turned_v0 (p0:GridV) (V:View) (R:Value→View→Prop) (I0:C_waveportref07_Turned_0→L_waveportref07_Turned_0→View→Prop) (J0:C_waveportref07_Turned_0→L_waveportref07_Turned_0→View→Nat) (I1:C_waveportref07_Turned_1→L_waveportref07_Turned_1→View→Prop) (J1:C_waveportref07_Turned_1→L_waveportref07_Turned_1→View→Nat) {X:Prop} (e:waveportref07_Turned_sk p0 V R I0 I1 I0 (fun c w V x U=>I0 c w V∧J0 c w V<J0 c x U) I1 (fun c w V x U=>I1 c w V∧J1 c w V<J1 c x U)=X) (h:X) :
 CallV Tryz.prog 18 #[p0.val] V R :=
 calls_of_vc (Shp:=Shp) hmixed Tryz.func18 (c:=Tryz.f18.body.getD .skip) (args:=[p0.val]) (by kernel_rfl)
 (.newR 0 0 (.seq (.reg [A 1 3,A 2 3]) (.seq (.seq (.reg [A 6 7,A 1 4,A 8 0,A 9 0]) (.cond (.seq (.reg [A 1 4,A 2 6]) (.pubR 0 .leaf)) .leaf)) (.seq (.reg [A 11 7,A 1 4,A 13 7,A 0 22,A 15 0,A 0 26,A 17 0,A 3 3,A 3 6]) (.seq (.seq (.reg [A 4 2]) (.block (.loop C_waveportref07_Turned_0 L_waveportref07_Turned_0 (fun σ=>C_waveportref07_Turned_0.mk (Sl.mk (gSlA (gOwn σ 3 0)) (gSlL (gOwn σ 3 0)) (gSlC (gOwn σ 3 0)))) (fun c x=>{ tm:=spT 56 0 [(1,.own 1 0),(2,.own 2 0),(3,.own 3 0),(4,.val (.int .i64 x.t4))],own:=spO 56 0 [(0,⟨0,.reg x.o0⟩),(1,⟨40,.fixed [.val (p0.rows.v)]⟩),(2,⟨40,.fixed [.val (x.o2.rows.v)]⟩),(3,⟨40,.fixed [.val (c.o3_0.v)]⟩)] }) I0 J0 (.seq (.seq (.reg [A 18 2,A 19 7,A 3 4,A 21 0,A 22 0]) (.cond .leaf .leaf)) (.seq (.block (.seq (.draw [(0,A 25 7),(1,A 3 4),(2,A 27 2),(3,A 28 7),(4,A 1 4),(5,A 30 0),(6,A 0 26),(7,A 32 7),(8,A 0 23)] [0,1,0,0,8,24,56,127,255]) (.seq (.reg [A 5 2]) (.block (.loop C_waveportref07_Turned_1 L_waveportref07_Turned_1 (fun σ=>C_waveportref07_Turned_1.mk (gInt (gTm σ 4)) (Sl.mk (gSlA (gOwn σ 2 0)) (gSlL (gOwn σ 2 0)) (gSlC (gOwn σ 2 0))) (Sl.mk (gSlA (gOwn σ 3 0)) (gSlL (gOwn σ 3 0)) (gSlC (gOwn σ 3 0)))) (fun c x=>{ tm:=spT 56 0 [(1,.own 1 0),(2,.own 2 0),(3,.own 3 0),(4,.val (.int .i64 c.t4)),(5,.val (.int .i64 x.t5))],own:=spO 56 0 [(0,⟨0,.reg x.o0⟩),(1,⟨40,.fixed [.val (p0.rows.v)]⟩),(2,⟨40,.fixed [.val (c.o2_0.v)]⟩),(3,⟨40,.fixed [.val (c.o3_0.v)]⟩)] }) I1 J1 (.seq (.seq (.reg [A 33 2,A 34 7,A 1 4,A 36 0,A 37 0]) (.cond .leaf .leaf)) (.seq (.block (.draw [(0,A 40 7),(1,A 3 4),(2,A 42 2),(3,A 43 7),(4,A 0 22),(5,A 45 2),(6,A 46 7),(7,A 1 4),(8,A 48 2),(9,A 49 7),(10,A 0 22),(11,A 51 2),(12,A 52 7),(13,A 0 22),(14,A 54 7),(15,A 0 23)] [0,1,0,7,15,0,0,64,0,448,960,0,4032,8128,16383,32767])) (.reg [A 38 2,A 39 0,A 5 2])))))))) (.reg [A 23 2,A 24 0,A 4 2])))))) (.seq (.reg [A 3 4,A 2 6]) (.pubR 0 .leaf)))))))
 (Eq.mpr (by kernel_rfl) (show waveportref07_Turned_sk p0 V R I0 I1 (fun c w V=>∃x,waveportref07_Turned_f0 p0 c w x∧I0 c x V) (fun c w V y U=>∃x,waveportref07_Turned_f0 p0 c w x∧I0 c x V∧J0 c x V<J0 c y U) (fun c w V=>∃x,waveportref07_Turned_f1 p0 c w x∧I1 c x V) (fun c w V y U=>∃x,waveportref07_Turned_f1 p0 c w x∧I1 c x V∧J1 c x V<J1 c y U)from by
 have h:=Eq.mpr e h; unfold waveportref07_Turned_sk at h ⊢; have Ee0:=fun c w V (h:I0 c w V)=>(⟨w,⟨⟨rfl,rfl,rfl,rfl,trivial⟩,⟨rfl,rfl,rfl,rfl,trivial⟩⟩,h⟩:∃x,waveportref07_Turned_f0 p0 c w x∧I0 c x V); have Bb0:=fun c w V y U (h:I0 c w V∧J0 c w V<J0 c y U)=>(⟨w,⟨⟨rfl,rfl,rfl,rfl,trivial⟩,⟨rfl,rfl,rfl,rfl,trivial⟩⟩,h⟩:∃x,waveportref07_Turned_f0 p0 c w x∧I0 c x V∧J0 c x V<J0 c y U); have Ee1:=fun c w V (h:I1 c w V)=>(⟨w,⟨⟨rfl,rfl,rfl,rfl,rfl,trivial⟩,⟨rfl,rfl,rfl,rfl,trivial⟩⟩,h⟩:∃x,waveportref07_Turned_f1 p0 c w x∧I1 c x V); have Bb1:=fun c w V y U (h:I1 c w V∧J1 c w V<J1 c y U)=>(⟨w,⟨⟨rfl,rfl,rfl,rfl,rfl,trivial⟩,⟨rfl,rfl,rfl,rfl,trivial⟩⟩,h⟩:∃x,waveportref07_Turned_f1 p0 c w x∧I1 c x V∧J1 c x V<J1 c y U); exact⟨fun h32=>⟨(h.1 h32).1,(fun V1 h1 h2=>((h.1 h32).2 V1 h1 h2))⟩,fun h32=>⟨(h.2 h32).1,(match (h.2 h32).2 with|⟨x1,h31,h30⟩=>⟨x1,h31,⟨h30.1,(fun b2 h28 h29=>⟨(Ee0 _ _ _ (h30.2 b2 h28 h29).1),fun x3 V2 h26 h27=>⟨fun h25=>⟨(((h30.2 b2 h28 h29).2 x3 V2 h26 h27).1 h25).1,(fun b3 h21 h22=>⟨((((h30.2 b2 h28 h29).2 x3 V2 h26 h27).1 h25).2 b3 h21 h22).1,(match ((((h30.2 b2 h28 h29).2 x3 V2 h26 h27).1 h25).2 b3 h21 h22).2 with|⟨b4,c1,l2,h18,h19,h20,h17⟩=>⟨b4,c1,l2,h18,h19,h20,⟨(Ee1 _ _ _ h17.1),fun x5 V3 h15 h16=>⟨fun h14=>⟨((h17.2 x5 V3 h15 h16).1 h14).1,(match ((h17.2 x5 V3 h15 h16).1 h14).2 with|⟨x6,h13,h12⟩=>⟨x6,h13,⟨h12.1,(match h12.2 with|⟨x7,h11,h10⟩=>⟨x7,h11,⟨h10.1,(match h10.2 with|⟨x8,h8,h9,h7⟩=>⟨x8,h8,h9,⟨h7.1,(match h7.2 with|⟨b5,c2,l3,h4,h5,h6,h3⟩=>⟨b5,c2,l3,h4,h5,h6,(Bb1 _ _ _ _ _ h3)⟩)⟩⟩)⟩⟩)⟩⟩)⟩,fun h14=>(Bb0 _ _ _ _ _ ((h17.2 x5 V3 h15 h16).2 h14))⟩⟩⟩)⟩)⟩,fun h25=>⟨(((h30.2 b2 h28 h29).2 x3 V2 h26 h27).2 h25).1,(fun V4 h23 h24=>((((h30.2 b2 h28 h29).2 x3 V2 h26 h27).2 h25).2 V4 h23 h24))⟩⟩⟩)⟩⟩)⟩⟩))
theorem waveportref07_Turned_vc:type_of% (fun p0 V R I0 J0 I1 J1=>waveportref07_Turned_v0 p0 V R I0 J0 I1 J1 (waveportref07_Turned_sk.eq_1 ..)):=fun p0 V R I0 J0 I1 J1=>waveportref07_Turned_v0 p0 V R I0 J0 I1 J1 (waveportref07_Turned_sk.eq_1 ..)
structure L_waveportref07_ofGrid_0 where
 o8:GridV
structure L_waveportref07_ofGrid_1 where
 t11:Int
 o8:GridV
 o10:GridV
structure L_waveportref07_ofGrid_2 where
 t12:Sl
structure C_waveportref07_ofGrid_2 where
 t11:Int
 o8_0:Sl
 o10_0:Sl
structure L_waveportref07_ofGrid_3 where
 t14:Int
 o10:GridV
 o56:List Value
structure C_waveportref07_ofGrid_3 where
 t11:Int
 t12:Sl
 t13l:Nat
 t13c:Nat
 o8_0:Sl
def waveportref07_ofGrid_f0 (p0:GridV) (p1:Sl) (p2:Sl) (p3:Bool) (_c:Unit) (w x:L_waveportref07_ofGrid_0):Prop:=(Q1 (.val (p1.v))∧Q1 (.val (p2.v))∧Q1 (.val (.bool p3))∧Q1 (.own 4 0)∧Q1 (.own 8 0)∧True)∧(O2 ⟨40,.fixed [.val (p0.rows.v)]⟩ ⟨40,.fixed [.val (p0.rows.v)]⟩∧O2 ⟨40,.fixed [.val (w.o8.rows.v)]⟩ ⟨40,.fixed [.val (x.o8.rows.v)]⟩∧True)
def waveportref07_ofGrid_f1 (p1:Sl) (p2:Sl) (p3:Bool) (_c:Unit) (w x:L_waveportref07_ofGrid_1):Prop:=(Q1 (.val (p1.v))∧Q1 (.val (p2.v))∧Q1 (.val (.bool p3))∧Q1 (.own 8 0)∧Q1 (.own 10 0)∧E2 (.val (.int .i64 w.t11)) (.val (.int .i64 x.t11))∧True)∧(O2 ⟨40,.fixed [.val (w.o8.rows.v)]⟩ ⟨40,.fixed [.val (x.o8.rows.v)]⟩∧O2 ⟨40,.fixed [.val (w.o10.rows.v)]⟩ ⟨40,.fixed [.val (x.o10.rows.v)]⟩∧True)
def waveportref07_ofGrid_f2 (p1:Sl) (p2:Sl) (p3:Bool) (c:C_waveportref07_ofGrid_2) (w x:L_waveportref07_ofGrid_2):Prop:=(Q1 (.val (p1.v))∧Q1 (.val (p2.v))∧Q1 (.val (.bool p3))∧Q1 (.own 8 0)∧Q1 (.own 10 0)∧Q1 (.val (.int .i64 c.t11))∧E2 (.val (w.t12.v)) (.val (x.t12.v))∧True)∧(O2 ⟨40,.fixed [.val (c.o8_0.v)]⟩ ⟨40,.fixed [.val (c.o8_0.v)]⟩∧O2 ⟨40,.fixed [.val (c.o10_0.v)]⟩ ⟨40,.fixed [.val (c.o10_0.v)]⟩∧True)
def waveportref07_ofGrid_f3 (p1:Sl) (p2:Sl) (p3:Bool) (c:C_waveportref07_ofGrid_3) (w x:L_waveportref07_ofGrid_3):Prop:=(Q1 (.val (p1.v))∧Q1 (.val (p2.v))∧Q1 (.val (.bool p3))∧Q1 (.own 8 0)∧Q1 (.own 10 0)∧Q1 (.val (.int .i64 c.t11))∧Q1 (.val (c.t12.v))∧Q1 (.osl 56 0 c.t13l c.t13c)∧E2 (.val (.int .i64 w.t14)) (.val (.int .i64 x.t14))∧True)∧(O2 ⟨40,.fixed [.val (c.o8_0.v)]⟩ ⟨40,.fixed [.val (c.o8_0.v)]⟩∧O2 ⟨40,.fixed [.val (w.o10.rows.v)]⟩ ⟨40,.fixed [.val (x.o10.rows.v)]⟩∧O2 ⟨50,.dyn w.o56⟩ ⟨50,.dyn x.o56⟩∧True)
def waveportref07_ofGrid_sk (p0:GridV) (p1:Sl) (p2:Sl) (p3:Bool) (V:View) (R:Value→View→Prop) (I0:Unit→L_waveportref07_ofGrid_0→View→Prop) (I1:Unit→L_waveportref07_ofGrid_1→View→Prop) (I2:C_waveportref07_ofGrid_2→L_waveportref07_ofGrid_2→View→Prop) (I3:C_waveportref07_ofGrid_3→L_waveportref07_ofGrid_3→View→Prop) (E0:Unit→L_waveportref07_ofGrid_0→View→Prop) (E1:Unit→L_waveportref07_ofGrid_1→View→Prop) (B1:Unit→L_waveportref07_ofGrid_1→View→L_waveportref07_ofGrid_1→View→Prop) (E2:C_waveportref07_ofGrid_2→L_waveportref07_ofGrid_2→View→Prop) (E3:C_waveportref07_ofGrid_3→L_waveportref07_ofGrid_3→View→Prop) (B3:C_waveportref07_ofGrid_3→L_waveportref07_ofGrid_3→View→L_waveportref07_ofGrid_3→View→Prop):Prop :=
 (CallV Tryz.prog 128 #[.int .i64 (p1.len:Int)] V fun v V2=>∃r1:Bool,v = .bool r1 ∧
 ((!r1)=true →
 R (.tuple #[(GridV.mk (Sl.mk none 0 0)).val,.int .i64 4]) V2) ∧
 ((!r1)=false →
 CallV Tryz.prog 128 #[.int .i64 (p2.len:Int)] V2 fun v V3=>∃r2:Bool,v = .bool r2 ∧
 ((!r2)=true →
 R (.tuple #[(GridV.mk (Sl.mk none 0 0)).val,.int .i64 4]) V3) ∧
 ((!r2)=false →
 ((((p0.rows.len:Int):Int) != (p2.len:Int))=true →
 R (.tuple #[(GridV.mk (Sl.mk none 0 0)).val,.int .i64 4]) V3) ∧
 ((((p0.rows.len:Int):Int) != (p2.len:Int))=false →
 ((0:Int)≤0∧(0:Int)<(p0.rows.len:Nat)∧Option.isSome p0.rows.a=true) ∧
 ∃x2:Sl,View.load V3 (Option.map (fun q=>Addr.add q (Int.toNat 0*1)) p0.rows.a)=some (x2.v) ∧
 ((((x2.len:Int):Int) != (p1.len:Int))=true →
 R (.tuple #[(GridV.mk (Sl.mk none 0 0)).val,.int .i64 4]) V3) ∧
 ((((x2.len:Int):Int) != (p1.len:Int))=false →
 E0 () (L_waveportref07_ofGrid_0.mk (GridV.mk (Sl.mk none 0 0))) V3))))) ∧
 (∀(x1:L_waveportref07_ofGrid_0) (V1:View),View.le V V1→I0 () x1 V1 →
 E1 () (L_waveportref07_ofGrid_1.mk 0 x1.o8 p0) V1 ∧
 (∀(x5:L_waveportref07_ofGrid_1) (V4:View),View.le V1 V4→I1 () x5 V4 →
 ((decide ((x5.t11:Int)<2))=true →
 ((((x5.t11:Int)==1)=true →
 E2 (C_waveportref07_ofGrid_2.mk x5.t11 x5.o8.rows x5.o10.rows) (L_waveportref07_ofGrid_2.mk p2) V4) ∧
 (((x5.t11:Int)==1)=false →
 E2 (C_waveportref07_ofGrid_2.mk x5.t11 x5.o8.rows x5.o10.rows) (L_waveportref07_ofGrid_2.mk p1) V4)) ∧
 (∀(x6:L_waveportref07_ofGrid_2) (V5:View),View.le V4 V5→I2 (C_waveportref07_ofGrid_2.mk x5.t11 x5.o8.rows x5.o10.rows) x6 V5 →
 ((0:Int)≤(x5.o10.rows.len:Int)∧((x5.o10.rows.len:Int):Int)≤(x5.o10.rows.len:Int)∧(24:Int)*(x5.o10.rows.len:Int)≤281474976710656∧((x5.o10.rows.len:Int):Int)≤9223372036854775807) ∧
 E3 (C_waveportref07_ofGrid_3.mk x5.t11 x6.t12 (Int.toNat (x5.o10.rows.len:Int)) (Int.toNat (x5.o10.rows.len:Int)) x5.o8.rows) (L_waveportref07_ofGrid_3.mk 0 x5.o10 ((List.replicate (Int.toNat (x5.o10.rows.len:Int)) [Value.slice none 0 0]).flatten)) V5 ∧
 (∀(x10:L_waveportref07_ofGrid_3) (V6:View),View.le V5 V6→I3 (C_waveportref07_ofGrid_3.mk x5.t11 x6.t12 (Int.toNat (x5.o10.rows.len:Int)) (Int.toNat (x5.o10.rows.len:Int)) x5.o8.rows) x10 V6 →
 ((decide ((x10.t14:Int)<(x10.o10.rows.len:Int)))=true →
 ((0:Int)≤x10.t14∧(x10.t14:Int)<(x10.o10.rows.len:Nat)∧Option.isSome x10.o10.rows.a=true) ∧
 ∃x11:Sl,View.load V6 (Option.map (fun q=>Addr.add q (Int.toNat x10.t14*1)) x10.o10.rows.a)=some (x11.v) ∧
 CallV Tryz.prog 241 #[x11.v,x6.t12.v] V6 fun v V7=>∃r3:Sl,v=r3.v ∧
 ((0:Int)≤x10.t14∧(x10.t14:Int)<(Int.toNat (x5.o10.rows.len:Int):Nat)) ∧
 0+Int.toNat x10.t14*1+1≤List.length x10.o56 ∧
 (p3=true →
 ((0:Int)≤x10.t14∧(x10.t14:Int)<(x10.o10.rows.len:Nat)∧Option.isSome x10.o10.rows.a=true) ∧
 ∃x12:Sl,View.load V7 (Option.map (fun q=>Addr.add q (Int.toNat x10.t14*1)) x10.o10.rows.a)=some (x12.v) ∧
 CallV Tryz.prog 243 #[x6.t12.v] V7 fun v V8=>∃r4:Sl,v=r4.v ∧
 CallV Tryz.prog 241 #[x12.v,r4.v] V8 fun v V9=>∃r5:Sl,v=r5.v ∧
 CallV Tryz.prog 242 #[r5.v] V9 fun v V10=>∃r6:Sl,v=r6.v ∧
 ((0:Int)≤x10.t14∧(x10.t14:Int)<(Int.toNat (x5.o10.rows.len:Int):Nat)) ∧
 0+Int.toNat x10.t14*1+1≤List.length (List.set x10.o56 (0+Int.toNat x10.t14*1) (r3.v)) ∧
 B3 (C_waveportref07_ofGrid_3.mk x5.t11 x6.t12 (Int.toNat (x5.o10.rows.len:Int)) (Int.toNat (x5.o10.rows.len:Int)) x5.o8.rows) (L_waveportref07_ofGrid_3.mk (i64.wrap (x10.t14+1)) x10.o10 (List.set (List.set x10.o56 (0+Int.toNat x10.t14*1) (r3.v)) (0+Int.toNat x10.t14*1) (r6.v))) V10 x10 V6) ∧
 (p3=false →
 B3 (C_waveportref07_ofGrid_3.mk x5.t11 x6.t12 (Int.toNat (x5.o10.rows.len:Int)) (Int.toNat (x5.o10.rows.len:Int)) x5.o8.rows) (L_waveportref07_ofGrid_3.mk (i64.wrap (x10.t14+1)) x10.o10 (List.set x10.o56 (0+Int.toNat x10.t14*1) (r3.v))) V7 x10 V6)) ∧
 ((decide ((x10.t14:Int)<(x10.o10.rows.len:Int)))=false →
 ∀(b1:Nat) (V11:View),View.le V6 V11→V11 b1=some (List.toArray x10.o56) →
 CallV Tryz.prog 18 #[(GridV.mk (Sl.mk (some (Addr.mk b1 0 none)) (Int.toNat (x5.o10.rows.len:Int)) (Int.toNat (x5.o10.rows.len:Int)))).val] V11 fun v V12=>∃r7:GridV,v=r7.val ∧
 B1 () (L_waveportref07_ofGrid_1.mk (i64.wrap (x5.t11+1)) x5.o8 r7) V12 x5 V4)))) ∧
 ((decide ((x5.t11:Int)<2))=false →
 R (.tuple #[x5.o10.val,.int .i64 0]) V4)))
theorem waveportref07_ofGrid_v0 (p0:GridV) (p1:Sl) (p2:Sl) (p3:Bool) (V:View) (R:Value→View→Prop) (I0:Unit→L_waveportref07_ofGrid_0→View→Prop) (I1:Unit→L_waveportref07_ofGrid_1→View→Prop) (J1:Unit→L_waveportref07_ofGrid_1→View→Nat) (I2:C_waveportref07_ofGrid_2→L_waveportref07_ofGrid_2→View→Prop) (I3:C_waveportref07_ofGrid_3→L_waveportref07_ofGrid_3→View→Prop) (J3:C_waveportref07_ofGrid_3→L_waveportref07_ofGrid_3→View→Nat) {X:Prop} (e:waveportref07_ofGrid_sk p0 p1 p2 p3 V R I0 I1 I2 I3 I0 I1 (fun c w V x U=>I1 c w V∧J1 c w V<J1 c x U) I2 I3 (fun c w V x U=>I3 c w V∧J3 c w V<J3 c x U)=X) (h:X) :
 CallV Tryz.prog 114 #[p0.val,p1.v,p2.v,.bool p3] V R :=
 calls_of_vc (Shp:=Shp) hmixed Tryz.func114 (c:=Tryz.f114.body.getD .skip) (args:=[p0.val,p1.v,p2.v,.bool p3]) (by kernel_rfl)
 (.seq (.reg [A 4 3,A 8 3,A 9 2]) (.cut Unit L_waveportref07_ofGrid_0 (fun _=>()) (fun c x=>{ tm:=spT 91 0 [(1,.val (p1.v)),(2,.val (p2.v)),(3,.val (.bool p3)),(4,.own 4 0),(8,.own 8 0)],own:=spO 91 0 [(4,⟨40,.fixed [.val (p0.rows.v)]⟩),(8,⟨40,.fixed [.val (x.o8.rows.v)]⟩)] }) I0 (.seq (.reg [A 15 2,A 16 0,A 17 10,A 18 20,⟨19,2,true⟩,A 20 2,A 21 0,A 22 10,A 23 20,A 24 20,⟨25,2,true⟩,A 26 7,A 4 4,A 28 0,A 29 2,A 30 0,A 31 0,A 32 20,⟨33,2,true⟩,A 34 7,A 4 4,A 36 7,A 37 5,A 38 0,A 39 2,A 40 0,A 41 0,A 42 20]) (.cond (.seq (.reg [A 43 0,A 8 6,A 9 2]) .leaf) .leaf)) (.seq (.reg [A 4 4,A 10 3,A 10 6]) (.seq (.seq (.reg [A 11 2]) (.block (.loop Unit L_waveportref07_ofGrid_1 (fun _=>()) (fun c x=>{ tm:=spT 91 0 [(1,.val (p1.v)),(2,.val (p2.v)),(3,.val (.bool p3)),(8,.own 8 0),(10,.own 10 0),(11,.val (.int .i64 x.t11))],own:=spO 91 0 [(8,⟨40,.fixed [.val (x.o8.rows.v)]⟩),(10,⟨40,.fixed [.val (x.o10.rows.v)]⟩)] }) I1 J1 (.seq (.seq (.reg [A 45 2,A 46 0]) (.cond .leaf .leaf)) (.seq (.block (.seq (.reg [A 49 2,A 12 2]) (.cut C_waveportref07_ofGrid_2 L_waveportref07_ofGrid_2 (fun σ=>C_waveportref07_ofGrid_2.mk (gInt (gTm σ 11)) (Sl.mk (gSlA (gOwn σ 8 0)) (gSlL (gOwn σ 8 0)) (gSlC (gOwn σ 8 0))) (Sl.mk (gSlA (gOwn σ 10 0)) (gSlL (gOwn σ 10 0)) (gSlC (gOwn σ 10 0)))) (fun c x=>{ tm:=spT 91 0 [(1,.val (p1.v)),(2,.val (p2.v)),(3,.val (.bool p3)),(8,.own 8 0),(10,.own 10 0),(11,.val (.int .i64 c.t11)),(12,.val (x.t12.v))],own:=spO 91 0 [(8,⟨40,.fixed [.val (c.o8_0.v)]⟩),(10,⟨40,.fixed [.val (c.o10_0.v)]⟩)] }) I2 (.seq (.reg [A 50 2,A 51 0]) (.cond (.reg [A 52 2,A 12 2]) .leaf)) (.seq (.reg [A 53 7,A 10 4,A 55 0,A 56 3,A 13 2]) (.seq (.seq (.reg [A 14 2]) (.block (.loop C_waveportref07_ofGrid_3 L_waveportref07_ofGrid_3 (fun σ=>C_waveportref07_ofGrid_3.mk (gInt (gTm σ 11)) (Sl.mk (gSlA (gTm σ 12)) (gSlL (gTm σ 12)) (gSlC (gTm σ 12))) (gLen (gTm σ 13)) (gCap (gTm σ 13)) (Sl.mk (gSlA (gOwn σ 8 0)) (gSlL (gOwn σ 8 0)) (gSlC (gOwn σ 8 0)))) (fun c x=>{ tm:=spT 91 0 [(1,.val (p1.v)),(2,.val (p2.v)),(3,.val (.bool p3)),(8,.own 8 0),(10,.own 10 0),(11,.val (.int .i64 c.t11)),(12,.val (c.t12.v)),(13,.osl 56 0 c.t13l c.t13c),(14,.val (.int .i64 x.t14))],own:=spO 91 0 [(8,⟨40,.fixed [.val (c.o8_0.v)]⟩),(10,⟨40,.fixed [.val (x.o10.rows.v)]⟩),(56,⟨50,.dyn x.o56⟩)] }) I3 J3 (.seq (.seq (.reg [A 57 2,A 58 7,A 10 4,A 60 0,A 61 0]) (.cond .leaf .leaf)) (.seq (.block (.seq (.reg [A 64 2,A 65 2,A 66 7,A 10 4,A 68 2,A 69 7,A 70 5,A 71 2,A 72 10,A 73 7,A 56 6]) (.seq (.reg [A 74 2]) (.cond (.draw [(0,A 75 2),(1,A 76 2),(2,A 77 7),(3,A 10 4),(4,A 79 2),(5,A 80 7),(6,A 81 5),(7,A 82 2),(8,A 83 10),(9,A 84 10),(10,A 85 10),(11,A 86 7),(12,A 56 6)] [0,0,0,4,0,28,60,0,128,508,1020,2047,4095]) .leaf)))) (.reg [A 62 2,A 63 0,A 14 2])))))) (.pub 56 (.reg [A 87 2,A 88 0,A 89 10,A 10 6]))))))) (.reg [A 47 2,A 48 0,A 11 2])))))) (.seq (.reg [A 10 4,A 8 6,A 9 2]) .leaf)))))
 (Eq.mpr (by kernel_rfl) (show waveportref07_ofGrid_sk p0 p1 p2 p3 V R I0 I1 I2 I3 (fun c w V=>∃x,waveportref07_ofGrid_f0 p0 p1 p2 p3 c w x∧I0 c x V) (fun c w V=>∃x,waveportref07_ofGrid_f1 p1 p2 p3 c w x∧I1 c x V) (fun c w V y U=>∃x,waveportref07_ofGrid_f1 p1 p2 p3 c w x∧I1 c x V∧J1 c x V<J1 c y U) (fun c w V=>∃x,waveportref07_ofGrid_f2 p1 p2 p3 c w x∧I2 c x V) (fun c w V=>∃x,waveportref07_ofGrid_f3 p1 p2 p3 c w x∧I3 c x V) (fun c w V y U=>∃x,waveportref07_ofGrid_f3 p1 p2 p3 c w x∧I3 c x V∧J3 c x V<J3 c y U)from by
 have h:=Eq.mpr e h; unfold waveportref07_ofGrid_sk at h ⊢; have Ee0:=fun c w V (h:I0 c w V)=>(⟨w,⟨⟨rfl,rfl,rfl,rfl,rfl,trivial⟩,⟨rfl,rfl,trivial⟩⟩,h⟩:∃x,waveportref07_ofGrid_f0 p0 p1 p2 p3 c w x∧I0 c x V); have Ee1:=fun c w V (h:I1 c w V)=>(⟨w,⟨⟨rfl,rfl,rfl,rfl,rfl,rfl,trivial⟩,⟨rfl,rfl,trivial⟩⟩,h⟩:∃x,waveportref07_ofGrid_f1 p1 p2 p3 c w x∧I1 c x V); have Bb1:=fun c w V y U (h:I1 c w V∧J1 c w V<J1 c y U)=>(⟨w,⟨⟨rfl,rfl,rfl,rfl,rfl,rfl,trivial⟩,⟨rfl,rfl,trivial⟩⟩,h⟩:∃x,waveportref07_ofGrid_f1 p1 p2 p3 c w x∧I1 c x V∧J1 c x V<J1 c y U); have Ee2:=fun c w V (h:I2 c w V)=>(⟨w,⟨⟨rfl,rfl,rfl,rfl,rfl,rfl,rfl,trivial⟩,⟨rfl,rfl,trivial⟩⟩,h⟩:∃x,waveportref07_ofGrid_f2 p1 p2 p3 c w x∧I2 c x V); have Ee3:=fun c w V (h:I3 c w V)=>(⟨w,⟨⟨rfl,rfl,rfl,rfl,rfl,rfl,rfl,rfl,rfl,trivial⟩,⟨rfl,rfl,rfl,trivial⟩⟩,h⟩:∃x,waveportref07_ofGrid_f3 p1 p2 p3 c w x∧I3 c x V); have Bb3:=fun c w V y U (h:I3 c w V∧J3 c w V<J3 c y U)=>(⟨w,⟨⟨rfl,rfl,rfl,rfl,rfl,rfl,rfl,rfl,rfl,trivial⟩,⟨rfl,rfl,rfl,trivial⟩⟩,h⟩:∃x,waveportref07_ofGrid_f3 p1 p2 p3 c w x∧I3 c x V∧J3 c x V<J3 c y U); exact⟨(CallV.mono h.1 (fun _ _ _ ⟨r1,h10,h9⟩=>⟨r1,h10,⟨fun h8=>(h9.1 h8),fun h8=>(CallV.mono (h9.2 h8) (fun _ _ _ ⟨r2,h7,h6⟩=>⟨r2,h7,⟨fun h5=>(h6.1 h5),fun h5=>⟨fun h4=>((h6.2 h5).1 h4),fun h4=>⟨((h6.2 h5).2 h4).1,(match ((h6.2 h5).2 h4).2 with|⟨x2,h3,h2⟩=>⟨x2,h3,⟨fun h1=>(h2.1 h1),fun h1=>(Ee0 _ _ _ (h2.2 h1))⟩⟩)⟩⟩⟩⟩))⟩⟩)),fun x1 V1 h37 h38=>⟨(Ee1 _ _ _ (h.2 x1 V1 h37 h38).1),fun x5 V4 h35 h36=>⟨fun h34=>⟨⟨fun h11=>(Ee2 _ _ _ ((((h.2 x1 V1 h37 h38).2 x5 V4 h35 h36).1 h34).1.1 h11)),fun h11=>(Ee2 _ _ _ ((((h.2 x1 V1 h37 h38).2 x5 V4 h35 h36).1 h34).1.2 h11))⟩,fun x6 V5 h32 h33=>⟨((((h.2 x1 V1 h37 h38).2 x5 V4 h35 h36).1 h34).2 x6 V5 h32 h33).1,⟨(Ee3 _ _ _ ((((h.2 x1 V1 h37 h38).2 x5 V4 h35 h36).1 h34).2 x6 V5 h32 h33).2.1),fun x10 V6 h30 h31=>⟨fun h29=>⟨((((((h.2 x1 V1 h37 h38).2 x5 V4 h35 h36).1 h34).2 x6 V5 h32 h33).2.2 x10 V6 h30 h31).1 h29).1,(match ((((((h.2 x1 V1 h37 h38).2 x5 V4 h35 h36).1 h34).2 x6 V5 h32 h33).2.2 x10 V6 h30 h31).1 h29).2 with|⟨x11,h24,h23⟩=>⟨x11,h24,(CallV.mono h23 (fun _ _ _ ⟨r3,h22,h21⟩=>⟨r3,h22,⟨h21.1,⟨h21.2.1,⟨fun h20=>⟨(h21.2.2.1 h20).1,(match (h21.2.2.1 h20).2 with|⟨x12,h19,h18⟩=>⟨x12,h19,(CallV.mono h18 (fun _ _ _ ⟨r4,h17,h16⟩=>⟨r4,h17,(CallV.mono h16 (fun _ _ _ ⟨r5,h15,h14⟩=>⟨r5,h15,(CallV.mono h14 (fun _ _ _ ⟨r6,h13,h12⟩=>⟨r6,h13,⟨h12.1,⟨h12.2.1,(Bb3 _ _ _ _ _ h12.2.2)⟩⟩⟩))⟩))⟩))⟩)⟩,fun h20=>(Bb3 _ _ _ _ _ (h21.2.2.2 h20))⟩⟩⟩⟩))⟩)⟩,fun h29=>(fun b1 V11 h27 h28=>(CallV.mono (((((((h.2 x1 V1 h37 h38).2 x5 V4 h35 h36).1 h34).2 x6 V5 h32 h33).2.2 x10 V6 h30 h31).2 h29) b1 V11 h27 h28) (fun _ _ _ ⟨r7,h26,h25⟩=>⟨r7,h26,(Bb1 _ _ _ _ _ h25)⟩)))⟩⟩⟩⟩,fun h34=>(((h.2 x1 V1 h37 h38).2 x5 V4 h35 h36).2 h34)⟩⟩⟩))
theorem waveportref07_ofGrid_vc:type_of% (fun p0 p1 p2 p3 V R I0 I1 J1 I2 I3 J3=>waveportref07_ofGrid_v0 p0 p1 p2 p3 V R I0 I1 J1 I2 I3 J3 (waveportref07_ofGrid_sk.eq_1 ..)):=fun p0 p1 p2 p3 V R I0 I1 J1 I2 I3 J3=>waveportref07_ofGrid_v0 p0 p1 p2 p3 V R I0 I1 J1 I2 I3 J3 (waveportref07_ofGrid_sk.eq_1 ..)
theorem waveportref07_ForwardGrid_vc (p0:GridV) (p1:Sl) (p2:Sl) (V:View) (R:Value→View→Prop)
 (h :
 CallV Tryz.prog 114 #[p0.val,p1.v,p2.v,.bool false] V fun v V1=>∃(r1:GridV) (r2:Int),v = .tuple #[r1.val,.int .i64 r2] ∧
 R (.tuple #[r1.val,.int .i64 r2]) V1) :
 CallV Tryz.prog 24 #[p0.val,p1.v,p2.v] V R :=
 calls_of_vc (Shp:=Shp) hmixed Tryz.func24 (c:=Tryz.f24.body.getD .skip) (args:=[p0.val,p1.v,p2.v]) (by kernel_rfl)
 (.seq (.reg [A 3 3,A 6 3,A 7 2]) (.seq (.reg [A 3 4,A 9 2,A 10 2,A 11 10,A 12 0,A 13 0,A 6 6,A 7 2]) .leaf))
 (Eq.mpr (by kernel_rfl) h)
theorem waveportref07_BackGrid_vc (p0:GridV) (p1:Sl) (p2:Sl) (V:View) (R:Value→View→Prop)
 (h :
 CallV Tryz.prog 114 #[p0.val,p1.v,p2.v,.bool true] V fun v V1=>∃(r1:GridV) (r2:Int),v = .tuple #[r1.val,.int .i64 r2] ∧
 R (.tuple #[r1.val,.int .i64 r2]) V1) :
 CallV Tryz.prog 27 #[p0.val,p1.v,p2.v] V R :=
 calls_of_vc (Shp:=Shp) hmixed Tryz.func27 (c:=Tryz.f27.body.getD .skip) (args:=[p0.val,p1.v,p2.v]) (by kernel_rfl)
 (.seq (.reg [A 3 3,A 6 3,A 7 2]) (.seq (.reg [A 3 4,A 9 2,A 10 2,A 11 10,A 12 0,A 13 0,A 6 6,A 7 2]) .leaf))
 (Eq.mpr (by kernel_rfl) h)
end Go.Proofs.YtfdaofhjkdabbaaGreat
