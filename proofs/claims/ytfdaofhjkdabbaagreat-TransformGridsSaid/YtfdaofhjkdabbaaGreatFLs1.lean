/- Part of the proof; it has the parts FLs1. -/
import Derived.Test.YtfdaofhjkdabbaaGreatFLs
set_option maxRecDepth 100000
set_option maxHeartbeats 4000000
namespace Go.Proofs.YtfdaofhjkdabbaaGreat
open Go Go.Vc Go.Proofs
open Go.IntKind (i8 i16 i32 i64 u8 u16 u32 u64)
structure L_waveportref07_conjugates_0 where
 t4:Int
 o7:List Value
def waveportref07_conjugates_f0 (p0:Sl) (_c:Unit) (w x:L_waveportref07_conjugates_0):Prop:=(Q1 (.val (p0.v))∧Q1 (.osl 7 0 (Int.toNat (p0.len:Int)) (Int.toNat (p0.len:Int)))∧E2 (.val (.int .i64 w.t4)) (.val (.int .i64 x.t4))∧True)∧(O2 ⟨118,.dyn w.o7⟩ ⟨118,.dyn x.o7⟩∧True)
def waveportref07_conjugates_sk (p0:Sl) (V:View) (R:Value→View→Prop) (I0:Unit→L_waveportref07_conjugates_0→View→Prop) (E0:Unit→L_waveportref07_conjugates_0→View→Prop) (B0:Unit→L_waveportref07_conjugates_0→View→L_waveportref07_conjugates_0→View→Prop):Prop :=
 ((0:Int)≤(p0.len:Int)∧((p0.len:Int):Int)≤(p0.len:Int)∧(88:Int)*(p0.len:Int)≤281474976710656∧((p0.len:Int):Int)≤9223372036854775807) ∧
 E0 () (L_waveportref07_conjugates_0.mk 0 ((List.replicate (Int.toNat (p0.len:Int)) [Value.bool false,Value.slice none 0 0,Value.bool false,Value.slice none 0 0,Value.slice none 0 0]).flatten)) V ∧
 (∀(x2:L_waveportref07_conjugates_0) (V1:View),View.le V V1→I0 () x2 V1 →
 ((decide ((x2.t4:Int)<(p0.len:Int)))=true →
 ((0:Int)≤x2.t4∧(x2.t4:Int)<(p0.len:Nat)∧Option.isSome p0.a=true) ∧
 ∃x3:NumV,View.has V1 (Option.map (fun q=>Addr.add q (Int.toNat x2.t4*5)) p0.a) (x3.val).cells.toList∧Option.isSome (Option.map (fun q=>Addr.add q (Int.toNat x2.t4*5)) p0.a)=true ∧
 CallV Tryz.prog 308 #[x3.val] V1 fun v V2=>∃r1:NumV,v=r1.val ∧
 ((0:Int)≤x2.t4∧(x2.t4:Int)<(Int.toNat (p0.len:Int):Nat)) ∧
 0+Int.toNat x2.t4*5+5≤List.length x2.o7 ∧
 B0 () (L_waveportref07_conjugates_0.mk (i64.wrap (x2.t4+1)) (setL x2.o7 (0+Int.toNat x2.t4*5) [.bool r1.re.neg,r1.re.mag.v,.bool r1.im.neg,r1.im.mag.v,r1.under.v])) V2 x2 V1) ∧
 ((decide ((x2.t4:Int)<(p0.len:Int)))=false →
 ∀(b1:Nat) (V3:View),View.le V1 V3→V3 b1=some (List.toArray x2.o7) →
 R ((Sl.mk (some (Addr.mk b1 0 none)) (Int.toNat (p0.len:Int)) (Int.toNat (p0.len:Int))).v) V3))
theorem waveportref07_conjugates_v0 (p0:Sl) (V:View) (R:Value→View→Prop) (I0:Unit→L_waveportref07_conjugates_0→View→Prop) (J0:Unit→L_waveportref07_conjugates_0→View→Nat) {X:Prop} (e:waveportref07_conjugates_sk p0 V R I0 I0 (fun c w V x U=>I0 c w V∧J0 c w V<J0 c x U)=X) (h:X) :
 CallV Tryz.prog 243 #[p0.v] V R :=
 calls_of_vc (Shp:=Shp) hmixed Tryz.func243 (c:=Tryz.f243.body.getD .skip) (args:=[p0.v]) (by kernel_rfl)
 (.seq (.reg [A 2 2]) (.seq (.reg [A 5 2,A 6 0,A 7 3,A 3 2]) (.seq (.seq (.reg [A 4 2]) (.block (.loop Unit L_waveportref07_conjugates_0 (fun _=>()) (fun c x=>{ tm:=spT 23 0 [(0,.val (p0.v)),(3,.osl 7 0 (Int.toNat (p0.len:Int)) (Int.toNat (p0.len:Int))),(4,.val (.int .i64 x.t4))],own:=spO 23 0 [(7,⟨118,.dyn x.o7⟩)] }) I0 J0 (.seq (.seq (.reg [A 8 2,A 9 2,A 10 0,A 11 0]) (.cond .leaf .leaf)) (.seq (.block (.reg [A 14 2,A 15 2,A 16 2,A 17 2,A 18 7,A 19 5,A 20 10,A 21 7,A 7 6])) (.reg [A 12 2,A 13 0,A 4 2])))))) (.seq (.reg [A 22 2,A 2 2]) (.pub 7 .leaf)))))
 (Eq.mpr (by kernel_rfl) (show waveportref07_conjugates_sk p0 V R I0 (fun c w V=>∃x,waveportref07_conjugates_f0 p0 c w x∧I0 c x V) (fun c w V y U=>∃x,waveportref07_conjugates_f0 p0 c w x∧I0 c x V∧J0 c x V<J0 c y U)from by
 have h:=Eq.mpr e h; unfold waveportref07_conjugates_sk at h ⊢; have Ee0:=fun c w V (h:I0 c w V)=>(⟨w,⟨⟨rfl,rfl,rfl,trivial⟩,⟨rfl,trivial⟩⟩,h⟩:∃x,waveportref07_conjugates_f0 p0 c w x∧I0 c x V); have Bb0:=fun c w V y U (h:I0 c w V∧J0 c w V<J0 c y U)=>(⟨w,⟨⟨rfl,rfl,rfl,trivial⟩,⟨rfl,trivial⟩⟩,h⟩:∃x,waveportref07_conjugates_f0 p0 c w x∧I0 c x V∧J0 c x V<J0 c y U); exact⟨h.1,⟨(Ee0 _ _ _ h.2.1),fun x2 V1 h9 h10=>⟨fun h8=>⟨((h.2.2 x2 V1 h9 h10).1 h8).1,(match ((h.2.2 x2 V1 h9 h10).1 h8).2 with|⟨x3,h4,h5,h3⟩=>⟨x3,h4,h5,(CallV.mono h3 (fun _ _ _ ⟨r1,h2,h1⟩=>⟨r1,h2,⟨h1.1,⟨h1.2.1,(Bb0 _ _ _ _ _ h1.2.2)⟩⟩⟩))⟩)⟩,fun h8=>(fun b1 V3 h6 h7=>(((h.2.2 x2 V1 h9 h10).2 h8) b1 V3 h6 h7))⟩⟩⟩))
theorem waveportref07_conjugates_vc:type_of% (fun p0 V R I0 J0=>waveportref07_conjugates_v0 p0 V R I0 J0 (waveportref07_conjugates_sk.eq_1 ..)):=fun p0 V R I0 J0=>waveportref07_conjugates_v0 p0 V R I0 J0 (waveportref07_conjugates_sk.eq_1 ..)
structure L_waveportref07_divided_0 where
 t6:Int
 o15:List Value
structure C_waveportref07_divided_0 where
 o3:NumV
def waveportref07_divided_f0 (p0:Sl) (c:C_waveportref07_divided_0) (w x:L_waveportref07_divided_0):Prop:=(Q1 (.val (p0.v))∧Q1 (.own 3 0)∧Q1 (.osl 15 0 (Int.toNat (p0.len:Int)) (Int.toNat (p0.len:Int)))∧E2 (.val (.int .i64 w.t6)) (.val (.int .i64 x.t6))∧True)∧(O2 ⟨118,.fixed [.val (.bool c.o3.re.neg),.val (c.o3.re.mag.v),.val (.bool c.o3.im.neg),.val (c.o3.im.mag.v),.val (c.o3.under.v)]⟩ ⟨118,.fixed [.val (.bool c.o3.re.neg),.val (c.o3.re.mag.v),.val (.bool c.o3.im.neg),.val (c.o3.im.mag.v),.val (c.o3.under.v)]⟩∧O2 ⟨118,.dyn w.o15⟩ ⟨118,.dyn x.o15⟩∧True)
def waveportref07_divided_sk (p0:Sl) (V:View) (R:Value→View→Prop) (I0:C_waveportref07_divided_0→L_waveportref07_divided_0→View→Prop) (E0:C_waveportref07_divided_0→L_waveportref07_divided_0→View→Prop) (B0:C_waveportref07_divided_0→L_waveportref07_divided_0→View→L_waveportref07_divided_0→View→Prop):Prop :=
 CallV Tryz.prog 182 #[.int .i64 1,.int .i64 0,.int .i64 (p0.len:Int)] V fun v V1=>∃(r1:NumV) (r2:Int),v = .tuple #[r1.val,.int .i64 r2] ∧
 ((0:Int)≤(p0.len:Int)∧((p0.len:Int):Int)≤(p0.len:Int)∧(88:Int)*(p0.len:Int)≤281474976710656∧((p0.len:Int):Int)≤9223372036854775807) ∧
 E0 (C_waveportref07_divided_0.mk r1) (L_waveportref07_divided_0.mk 0 ((List.replicate (Int.toNat (p0.len:Int)) [Value.bool false,Value.slice none 0 0,Value.bool false,Value.slice none 0 0,Value.slice none 0 0]).flatten)) V1 ∧
 (∀(x2:L_waveportref07_divided_0) (V2:View),View.le V1 V2→I0 (C_waveportref07_divided_0.mk r1) x2 V2 →
 ((decide ((x2.t6:Int)<(p0.len:Int)))=true →
 ((0:Int)≤x2.t6∧(x2.t6:Int)<(p0.len:Nat)∧Option.isSome p0.a=true) ∧
 ∃x3:NumV,View.has V2 (Option.map (fun q=>Addr.add q (Int.toNat x2.t6*5)) p0.a) (x3.val).cells.toList∧Option.isSome (Option.map (fun q=>Addr.add q (Int.toNat x2.t6*5)) p0.a)=true ∧
 CallV Tryz.prog 154 #[x3.val,r1.val] V2 fun v V3=>∃r3:NumV,v=r3.val ∧
 ((0:Int)≤x2.t6∧(x2.t6:Int)<(Int.toNat (p0.len:Int):Nat)) ∧
 0+Int.toNat x2.t6*5+5≤List.length x2.o15 ∧
 B0 (C_waveportref07_divided_0.mk r1) (L_waveportref07_divided_0.mk (i64.wrap (x2.t6+1)) (setL x2.o15 (0+Int.toNat x2.t6*5) [.bool r3.re.neg,r3.re.mag.v,.bool r3.im.neg,r3.im.mag.v,r3.under.v])) V3 x2 V2) ∧
 ((decide ((x2.t6:Int)<(p0.len:Int)))=false →
 ∀(b1:Nat) (V4:View),View.le V2 V4→V4 b1=some (List.toArray x2.o15) →
 R ((Sl.mk (some (Addr.mk b1 0 none)) (Int.toNat (p0.len:Int)) (Int.toNat (p0.len:Int))).v) V4))
theorem waveportref07_divided_v0 (p0:Sl) (V:View) (R:Value→View→Prop) (I0:C_waveportref07_divided_0→L_waveportref07_divided_0→View→Prop) (J0:C_waveportref07_divided_0→L_waveportref07_divided_0→View→Nat) {X:Prop} (e:waveportref07_divided_sk p0 V R I0 I0 (fun c w V x U=>I0 c w V∧J0 c w V<J0 c x U)=X) (h:X) :
 CallV Tryz.prog 242 #[p0.v] V R :=
 calls_of_vc (Shp:=Shp) hmixed Tryz.func242 (c:=Tryz.f242.body.getD .skip) (args:=[p0.v]) (by kernel_rfl)
 (.seq (.reg [A 2 2]) (.seq (.reg [A 8 2,A 9 0,A 10 10,A 7 2,A 11 0,A 12 0,A 3 3,A 3 6,A 4 2]) (.seq (.reg [A 13 2,A 14 0,A 15 3,A 5 2]) (.seq (.seq (.reg [A 6 2]) (.block (.loop C_waveportref07_divided_0 L_waveportref07_divided_0 (fun σ=>C_waveportref07_divided_0.mk ((NumV.mk (WhV.mk (gBool (gOwn σ 3 0)) (Sl.mk (gSlA (gOwn σ 3 1)) (gSlL (gOwn σ 3 1)) (gSlC (gOwn σ 3 1)))) (WhV.mk (gBool (gOwn σ 3 2)) (Sl.mk (gSlA (gOwn σ 3 3)) (gSlL (gOwn σ 3 3)) (gSlC (gOwn σ 3 3)))) (Sl.mk (gSlA (gOwn σ 3 4)) (gSlL (gOwn σ 3 4)) (gSlC (gOwn σ 3 4)))))) (fun c x=>{ tm:=spT 32 0 [(0,.val (p0.v)),(3,.own 3 0),(5,.osl 15 0 (Int.toNat (p0.len:Int)) (Int.toNat (p0.len:Int))),(6,.val (.int .i64 x.t6))],own:=spO 32 0 [(3,⟨118,.fixed [.val (.bool c.o3.re.neg),.val (c.o3.re.mag.v),.val (.bool c.o3.im.neg),.val (c.o3.im.mag.v),.val (c.o3.under.v)]⟩),(15,⟨118,.dyn x.o15⟩)] }) I0 J0 (.seq (.seq (.reg [A 16 2,A 17 2,A 18 0,A 19 0]) (.cond .leaf .leaf)) (.seq (.block (.draw [(0,A 22 2),(1,A 23 2),(2,A 24 2),(3,A 25 2),(4,A 26 7),(5,A 27 5),(6,A 3 4),(7,A 29 10),(8,A 30 7),(9,A 15 6)] [0,0,0,0,12,28,0,124,255,511])) (.reg [A 20 2,A 21 0,A 6 2])))))) (.seq (.reg [A 31 2,A 2 2]) (.pub 15 .leaf))))))
 (Eq.mpr (by kernel_rfl) (show waveportref07_divided_sk p0 V R I0 (fun c w V=>∃x,waveportref07_divided_f0 p0 c w x∧I0 c x V) (fun c w V y U=>∃x,waveportref07_divided_f0 p0 c w x∧I0 c x V∧J0 c x V<J0 c y U)from by
 have h:=Eq.mpr e h; unfold waveportref07_divided_sk at h ⊢; have Ee0:=fun c w V (h:I0 c w V)=>(⟨w,⟨⟨rfl,rfl,rfl,rfl,trivial⟩,⟨rfl,rfl,trivial⟩⟩,h⟩:∃x,waveportref07_divided_f0 p0 c w x∧I0 c x V); have Bb0:=fun c w V y U (h:I0 c w V∧J0 c w V<J0 c y U)=>(⟨w,⟨⟨rfl,rfl,rfl,rfl,trivial⟩,⟨rfl,rfl,trivial⟩⟩,h⟩:∃x,waveportref07_divided_f0 p0 c w x∧I0 c x V∧J0 c x V<J0 c y U); exact(CallV.mono h (fun _ _ _ ⟨r1,r2,h12,h11⟩=>⟨r1,r2,h12,⟨h11.1,⟨(Ee0 _ _ _ h11.2.1),fun x2 V2 h9 h10=>⟨fun h8=>⟨((h11.2.2 x2 V2 h9 h10).1 h8).1,(match ((h11.2.2 x2 V2 h9 h10).1 h8).2 with|⟨x3,h4,h5,h3⟩=>⟨x3,h4,h5,(CallV.mono h3 (fun _ _ _ ⟨r3,h2,h1⟩=>⟨r3,h2,⟨h1.1,⟨h1.2.1,(Bb0 _ _ _ _ _ h1.2.2)⟩⟩⟩))⟩)⟩,fun h8=>(fun b1 V4 h6 h7=>(((h11.2.2 x2 V2 h9 h10).2 h8) b1 V4 h6 h7))⟩⟩⟩⟩))))
theorem waveportref07_divided_vc:type_of% (fun p0 V R I0 J0=>waveportref07_divided_v0 p0 V R I0 J0 (waveportref07_divided_sk.eq_1 ..)):=fun p0 V R I0 J0=>waveportref07_divided_v0 p0 V R I0 J0 (waveportref07_divided_sk.eq_1 ..)
structure L_waveportref07_every_0 where
 t5l:Nat
 t5c:Nat
 t6:Int
 o7:List Value
def waveportref07_every_f0 (p0:Sl) (_c:Unit) (w x:L_waveportref07_every_0):Prop:=(Q1 (.val (p0.v))∧E2 (.les 7 w.t5l w.t5c) (.les 7 x.t5l x.t5c)∧E2 (.val (.int .i64 w.t6)) (.val (.int .i64 x.t6))∧True)∧(O2 ⟨118,.list w.o7⟩ ⟨118,.list x.o7⟩∧True)
def waveportref07_every_sk (p0:Sl) (p1:Int) (V:View) (R:Value→View→Prop) (I0:Unit→L_waveportref07_every_0→View→Prop) (E0:Unit→L_waveportref07_every_0→View→Prop) (B0:Unit→L_waveportref07_every_0→View→L_waveportref07_every_0→View→Prop):Prop :=
 E0 () (L_waveportref07_every_0.mk 0 0 p1 ([]:List Value)) V ∧
 (∀(x2:L_waveportref07_every_0) (V1:View),View.le V V1→I0 () x2 V1 →
 ((decide ((x2.t6:Int)<(p0.len:Int)))=true →
 ((0:Int)≤x2.t6∧(x2.t6:Int)<(p0.len:Nat)∧Option.isSome p0.a=true) ∧
 ∃x3:NumV,View.has V1 (Option.map (fun q=>Addr.add q (Int.toNat x2.t6*5)) p0.a) (x3.val).cells.toList∧Option.isSome (Option.map (fun q=>Addr.add q (Int.toNat x2.t6*5)) p0.a)=true ∧
 ∀(b1:Nat) (V2:View),View.le V1 V2→View.Fin V2→V2 b1=some #[.bool x3.re.neg,x3.re.mag.v,.bool x3.im.neg,x3.im.mag.v,x3.under.v] →
 ∃(l1:List Value) (l2:List Value),LstOk 5 x2.t5l x2.t5c x2.o7 l1∧View.has V2 (some (Addr.mk b1 0 none)) l2∧List.length l2=1*5∧(∀v∈l2,Value.oneCell' v=true)∧x2.t5l+1≤maxLen∧(x2.t5l+1)*88≤140737488355328 ∧
 ∀(c1:Nat) (l3:List Value),LstOk 5 (x2.t5l+1) c1 l3 (l1++l2) →
 B0 () (L_waveportref07_every_0.mk (x2.t5l+1) c1 (i64.wrap (x2.t6+2)) l3) V2 x2 V1) ∧
 ((decide ((x2.t6:Int)<(p0.len:Int)))=false →
 ∀(b2:Nat) (V3:View),View.le V1 V3→(x2.o7≠[]→V3 b2=some (List.toArray x2.o7)) →
 R ((Sl.mk (some (Addr.mk b2 0 none)) x2.t5l x2.t5c).v) V3))
theorem waveportref07_every_v0 (p0:Sl) (p1:Int) (V:View) (R:Value→View→Prop) (I0:Unit→L_waveportref07_every_0→View→Prop) (J0:Unit→L_waveportref07_every_0→View→Nat) {X:Prop} (e:waveportref07_every_sk p0 p1 V R I0 I0 (fun c w V x U=>I0 c w V∧J0 c w V<J0 c x U)=X) (h:X) :
 CallV Tryz.prog 322 #[p0.v,.int .i64 p1] V R :=
 calls_of_vc (Shp:=Shp) hmixed Tryz.func322 (c:=Tryz.f322.body.getD .skip) (args:=[p0.v,.int .i64 p1]) (by kernel_rfl)
 (.seq (.reg [A 4 2]) (.seq (.reg [A 7 3,A 5 2]) (.seq (.seq (.reg [A 8 2,A 6 2]) (.block (.loop Unit L_waveportref07_every_0 (fun _=>()) (fun c x=>{ tm:=spT 23 0 [(0,.val (p0.v)),(5,.les 7 x.t5l x.t5c),(6,.val (.int .i64 x.t6))],own:=spO 23 0 [(7,⟨118,.list x.o7⟩)] }) I0 J0 (.seq (.seq (.reg [A 9 2,A 10 2,A 11 0,A 12 0]) (.cond .leaf .leaf)) (.seq (.block (.reg [A 15 2,A 16 2,A 17 2,A 18 7,A 19 5,A 20 11,A 7 13,A 5 2])) (.reg [A 13 2,A 14 0,A 6 2])))))) (.seq (.reg [A 22 2,A 4 2]) (.pub 7 .leaf)))))
 (Eq.mpr (by kernel_rfl) (show waveportref07_every_sk p0 p1 V R I0 (fun c w V=>∃x,waveportref07_every_f0 p0 c w x∧I0 c x V) (fun c w V y U=>∃x,waveportref07_every_f0 p0 c w x∧I0 c x V∧J0 c x V<J0 c y U)from by
 have h:=Eq.mpr e h; unfold waveportref07_every_sk at h ⊢; have Ee0:=fun c w V (h:I0 c w V)=>(⟨w,⟨⟨rfl,rfl,rfl,trivial⟩,⟨rfl,trivial⟩⟩,h⟩:∃x,waveportref07_every_f0 p0 c w x∧I0 c x V); have Bb0:=fun c w V y U (h:I0 c w V∧J0 c w V<J0 c y U)=>(⟨w,⟨⟨rfl,rfl,rfl,trivial⟩,⟨rfl,trivial⟩⟩,h⟩:∃x,waveportref07_every_f0 p0 c w x∧I0 c x V∧J0 c x V<J0 c y U); exact⟨(Ee0 _ _ _ h.1),fun x2 V1 h18 h19=>⟨fun h17=>⟨((h.2 x2 V1 h18 h19).1 h17).1,(match ((h.2 x2 V1 h18 h19).1 h17).2 with|⟨x3,h13,h14,h12⟩=>⟨x3,h13,h14,(fun b1 V2 h9 h10 h11=>(match (h12 b1 V2 h9 h10 h11)with|⟨l1,l2,h3,h4,h5,h6,h7,h8,h2⟩=>⟨l1,l2,h3,h4,h5,h6,h7,h8,(fun c1 l3 h1=>(Bb0 _ _ _ _ _ (h2 c1 l3 h1)))⟩))⟩)⟩,fun h17=>(fun b2 V3 h15 h16=>(((h.2 x2 V1 h18 h19).2 h17) b2 V3 h15 h16))⟩⟩))
theorem waveportref07_every_vc:type_of% (fun p0 p1 V R I0 J0=>waveportref07_every_v0 p0 p1 V R I0 J0 (waveportref07_every_sk.eq_1 ..)):=fun p0 p1 V R I0 J0=>waveportref07_every_v0 p0 p1 V R I0 J0 (waveportref07_every_sk.eq_1 ..)
structure L_waveportref07_stages_0 where
 t9:Int
 o30:List Value
structure C_waveportref07_stages_0 where
 t6:Sl
 t7:Sl
def waveportref07_stages_f0 (p0:Sl) (p1:Sl) (c:C_waveportref07_stages_0) (w x:L_waveportref07_stages_0):Prop:=(Q1 (.val (p1.v))∧Q1 (.val (.int .i64 (p0.len:Int)))∧Q1 (.val (c.t6.v))∧Q1 (.val (c.t7.v))∧Q1 (.osl 30 0 (Int.toNat (p0.len:Int)) (Int.toNat (p0.len:Int)))∧E2 (.val (.int .i64 w.t9)) (.val (.int .i64 x.t9))∧True)∧(O2 ⟨118,.dyn w.o30⟩ ⟨118,.dyn x.o30⟩∧True)
def waveportref07_stages_sk (p0:Sl) (p1:Sl) (V:View) (R:Value→View→Prop) (I0:C_waveportref07_stages_0→L_waveportref07_stages_0→View→Prop) (E0:C_waveportref07_stages_0→L_waveportref07_stages_0→View→Prop) (B0:C_waveportref07_stages_0→L_waveportref07_stages_0→View→L_waveportref07_stages_0→View→Prop):Prop :=
 ((((p0.len:Int):Int)==1)=true →
 ((0:Int)≤0∧(0:Int)<(p0.len:Nat)∧Option.isSome p0.a=true) ∧
 ∃x1:NumV,View.has V (Option.map (fun q=>Addr.add q (Int.toNat 0*5)) p0.a) (x1.val).cells.toList∧Option.isSome (Option.map (fun q=>Addr.add q (Int.toNat 0*5)) p0.a)=true ∧
 ∀(b1:Nat) (V1:View),View.le V V1→View.Fin V1→V1 b1=some #[.bool x1.re.neg,x1.re.mag.v,.bool x1.im.neg,x1.im.mag.v,x1.under.v] →
 R ((Sl.mk (some (Addr.mk b1 0 none)) 1 1).v) V1) ∧
 ((((p0.len:Int):Int)==1)=false →
 CallV Tryz.prog 322 #[p0.v,.int .i64 0] V fun v V2=>∃r1:Sl,v=r1.v ∧
 CallV Tryz.prog 322 #[p1.v,.int .i64 0] V2 fun v V3=>∃r2:Sl,v=r2.v ∧
 CallV Tryz.prog 241 #[r1.v,r2.v] V3 fun v V4=>∃r3:Sl,v=r3.v ∧
 CallV Tryz.prog 322 #[p0.v,.int .i64 1] V4 fun v V5=>∃r4:Sl,v=r4.v ∧
 CallV Tryz.prog 322 #[p1.v,.int .i64 0] V5 fun v V6=>∃r5:Sl,v=r5.v ∧
 CallV Tryz.prog 241 #[r4.v,r5.v] V6 fun v V7=>∃r6:Sl,v=r6.v ∧
 ((0:Int)≤(p0.len:Int)∧((p0.len:Int):Int)≤(p0.len:Int)∧(88:Int)*(p0.len:Int)≤281474976710656∧((p0.len:Int):Int)≤9223372036854775807) ∧
 E0 (C_waveportref07_stages_0.mk r3 r6) (L_waveportref07_stages_0.mk 0 ((List.replicate (Int.toNat (p0.len:Int)) [Value.bool false,Value.slice none 0 0,Value.bool false,Value.slice none 0 0,Value.slice none 0 0]).flatten)) V7 ∧
 (∀(x3:L_waveportref07_stages_0) (V8:View),View.le V7 V8→I0 (C_waveportref07_stages_0.mk r3 r6) x3 V8 →
 ((decide ((x3.t9:Int)<(i64.wrap (Int.tdiv (p0.len:Int) 2))))=true →
 ((0:Int)≤x3.t9∧(x3.t9:Int)<(r6.len:Nat)∧Option.isSome r6.a=true) ∧
 ∃x4:NumV,View.has V8 (Option.map (fun q=>Addr.add q (Int.toNat x3.t9*5)) r6.a) (x4.val).cells.toList∧Option.isSome (Option.map (fun q=>Addr.add q (Int.toNat x3.t9*5)) r6.a)=true ∧
 ((0:Int)≤x3.t9∧(x3.t9:Int)<(p1.len:Nat)∧Option.isSome p1.a=true) ∧
 ∃x5:NumV,View.has V8 (Option.map (fun q=>Addr.add q (Int.toNat x3.t9*5)) p1.a) (x5.val).cells.toList∧Option.isSome (Option.map (fun q=>Addr.add q (Int.toNat x3.t9*5)) p1.a)=true ∧
 CallV Tryz.prog 154 #[x4.val,x5.val] V8 fun v V9=>∃r7:NumV,v=r7.val ∧
 ((0:Int)≤x3.t9∧(x3.t9:Int)<(r3.len:Nat)∧Option.isSome r3.a=true) ∧
 ∃x6:NumV,View.has V9 (Option.map (fun q=>Addr.add q (Int.toNat x3.t9*5)) r3.a) (x6.val).cells.toList∧Option.isSome (Option.map (fun q=>Addr.add q (Int.toNat x3.t9*5)) r3.a)=true ∧
 CallV Tryz.prog 153 #[x6.val,r7.val] V9 fun v V10=>∃r8:NumV,v=r8.val ∧
 ((0:Int)≤x3.t9∧(x3.t9:Int)<(Int.toNat (p0.len:Int):Nat)) ∧
 0+Int.toNat x3.t9*5+5≤List.length x3.o30 ∧
 ((0:Int)≤x3.t9∧(x3.t9:Int)<(r3.len:Nat)∧Option.isSome r3.a=true) ∧
 ∃x7:NumV,View.has V10 (Option.map (fun q=>Addr.add q (Int.toNat x3.t9*5)) r3.a) (x7.val).cells.toList∧Option.isSome (Option.map (fun q=>Addr.add q (Int.toNat x3.t9*5)) r3.a)=true ∧
 CallV Tryz.prog 230 #[x7.val,r7.val] V10 fun v V11=>∃r9:NumV,v=r9.val ∧
 ((0:Int)≤(i64.wrap (x3.t9+(i64.wrap (Int.tdiv (p0.len:Int) 2))))∧((i64.wrap (x3.t9+(i64.wrap (Int.tdiv (p0.len:Int) 2)))):Int)<(Int.toNat (p0.len:Int):Nat)) ∧
 0+Int.toNat (i64.wrap (x3.t9+(i64.wrap (Int.tdiv (p0.len:Int) 2))))*5+5≤List.length (setL x3.o30 (0+Int.toNat x3.t9*5) [.bool r8.re.neg,r8.re.mag.v,.bool r8.im.neg,r8.im.mag.v,r8.under.v]) ∧
 B0 (C_waveportref07_stages_0.mk r3 r6) (L_waveportref07_stages_0.mk (i64.wrap (x3.t9+1)) (setL (setL x3.o30 (0+Int.toNat x3.t9*5) [.bool r8.re.neg,r8.re.mag.v,.bool r8.im.neg,r8.im.mag.v,r8.under.v]) (0+Int.toNat (i64.wrap (x3.t9+(i64.wrap (Int.tdiv (p0.len:Int) 2))))*5) [.bool r9.re.neg,r9.re.mag.v,.bool r9.im.neg,r9.im.mag.v,r9.under.v])) V11 x3 V8) ∧
 ((decide ((x3.t9:Int)<(i64.wrap (Int.tdiv (p0.len:Int) 2))))=false →
 ∀(b2:Nat) (V12:View),View.le V8 V12→V12 b2=some (List.toArray x3.o30) →
 R ((Sl.mk (some (Addr.mk b2 0 none)) (Int.toNat (p0.len:Int)) (Int.toNat (p0.len:Int))).v) V12)))
theorem waveportref07_stages_v0 (p0:Sl) (p1:Sl) (V:View) (R:Value→View→Prop) (I0:C_waveportref07_stages_0→L_waveportref07_stages_0→View→Prop) (J0:C_waveportref07_stages_0→L_waveportref07_stages_0→View→Nat) {X:Prop} (e:waveportref07_stages_sk p0 p1 V R I0 I0 (fun c w V x U=>I0 c w V∧J0 c w V<J0 c x U)=X) (h:X) :
 CallV Tryz.prog 241 #[p0.v,p1.v] V R :=
 calls_of_vc (Shp:=Shp) hmixed Tryz.func241 (c:=Tryz.f241.body.getD .skip) (args:=[p0.v,p1.v]) (by kernel_rfl)
 (.seq (.reg [A 4 2]) (.seq (.reg [A 11 2,A 12 0,A 5 2]) (.seq (.seq (.reg [A 13 2,A 14 0]) (.cond (.seq (.reg [A 15 2,A 16 7,A 17 5,A 18 11,A 4 2]) .leaf) .leaf)) (.seq (.reg [A 19 2,A 20 10,A 21 2,A 22 10,A 23 10,A 6 2]) (.seq (.reg [A 24 2,A 25 10,A 26 2,A 27 10,A 28 10,A 7 2]) (.seq (.reg [A 29 2,A 30 3,A 8 2]) (.seq (.seq (.reg [A 9 2]) (.block (.loop C_waveportref07_stages_0 L_waveportref07_stages_0 (fun σ=>C_waveportref07_stages_0.mk (Sl.mk (gSlA (gTm σ 6)) (gSlL (gTm σ 6)) (gSlC (gTm σ 6))) (Sl.mk (gSlA (gTm σ 7)) (gSlL (gTm σ 7)) (gSlC (gTm σ 7)))) (fun c x=>{ tm:=spT 68 0 [(1,.val (p1.v)),(5,.val (.int .i64 (p0.len:Int))),(6,.val (c.t6.v)),(7,.val (c.t7.v)),(8,.osl 30 0 (Int.toNat (p0.len:Int)) (Int.toNat (p0.len:Int))),(9,.val (.int .i64 x.t9))],own:=spO 68 0 [(30,⟨118,.dyn x.o30⟩)] }) I0 J0 (.seq (.seq (.reg [A 31 2,A 32 2,A 33 0,A 34 0]) (.cond .leaf .leaf)) (.seq (.block (.seq (.draw [(0,A 37 2),(1,A 38 2),(2,A 39 7),(3,A 40 5),(4,A 41 2),(5,A 42 2),(6,A 43 7),(7,A 44 5),(9,A 10 3),(8,A 45 10),(10,A 10 6)] [0,0,3,7,0,0,48,112,255,0,1023]) (.seq (.draw [(0,A 46 2),(1,A 47 2),(2,A 48 2),(3,A 49 2),(4,A 50 7),(5,A 51 5),(6,A 10 4),(7,A 53 10),(8,A 54 7),(9,A 30 6)] [0,0,0,0,12,28,0,124,255,511]) (.draw [(0,A 55 2),(1,A 56 2),(2,A 57 2),(3,A 58 0),(4,A 59 0),(5,A 60 2),(6,A 61 2),(7,A 62 7),(8,A 63 5),(9,A 10 4),(10,A 65 10),(11,A 66 7),(12,A 30 6)] [0,0,0,4,14,0,0,96,224,0,992,2047,4095])))) (.reg [A 35 2,A 36 0,A 9 2])))))) (.seq (.reg [A 67 2,A 4 2]) (.pub 30 .leaf)))))))))
 (Eq.mpr (by kernel_rfl) (show waveportref07_stages_sk p0 p1 V R I0 (fun c w V=>∃x,waveportref07_stages_f0 p0 p1 c w x∧I0 c x V) (fun c w V y U=>∃x,waveportref07_stages_f0 p0 p1 c w x∧I0 c x V∧J0 c x V<J0 c y U)from by
 have h:=Eq.mpr e h; unfold waveportref07_stages_sk at h ⊢; have Ee0:=fun c w V (h:I0 c w V)=>(⟨w,⟨⟨rfl,rfl,rfl,rfl,rfl,rfl,trivial⟩,⟨rfl,trivial⟩⟩,h⟩:∃x,waveportref07_stages_f0 p0 p1 c w x∧I0 c x V); have Bb0:=fun c w V y U (h:I0 c w V∧J0 c w V<J0 c y U)=>(⟨w,⟨⟨rfl,rfl,rfl,rfl,rfl,rfl,trivial⟩,⟨rfl,trivial⟩⟩,h⟩:∃x,waveportref07_stages_f0 p0 p1 c w x∧I0 c x V∧J0 c x V<J0 c y U); exact⟨fun h42=>⟨(h.1 h42).1,(match (h.1 h42).2 with|⟨x1,h5,h6,h4⟩=>⟨x1,h5,h6,(fun b1 V1 h1 h2 h3=>(h4 b1 V1 h1 h2 h3))⟩)⟩,fun h42=>(CallV.mono (h.2 h42) (fun _ _ _ ⟨r1,h41,h40⟩=>⟨r1,h41,(CallV.mono h40 (fun _ _ _ ⟨r2,h39,h38⟩=>⟨r2,h39,(CallV.mono h38 (fun _ _ _ ⟨r3,h37,h36⟩=>⟨r3,h37,(CallV.mono h36 (fun _ _ _ ⟨r4,h35,h34⟩=>⟨r4,h35,(CallV.mono h34 (fun _ _ _ ⟨r5,h33,h32⟩=>⟨r5,h33,(CallV.mono h32 (fun _ _ _ ⟨r6,h31,h30⟩=>⟨r6,h31,⟨h30.1,⟨(Ee0 _ _ _ h30.2.1),fun x3 V8 h28 h29=>⟨fun h27=>⟨((h30.2.2 x3 V8 h28 h29).1 h27).1,(match ((h30.2.2 x3 V8 h28 h29).1 h27).2 with|⟨x4,h23,h24,h22⟩=>⟨x4,h23,h24,⟨h22.1,(match h22.2 with|⟨x5,h20,h21,h19⟩=>⟨x5,h20,h21,(CallV.mono h19 (fun _ _ _ ⟨r7,h18,h17⟩=>⟨r7,h18,⟨h17.1,(match h17.2 with|⟨x6,h15,h16,h14⟩=>⟨x6,h15,h16,(CallV.mono h14 (fun _ _ _ ⟨r8,h13,h12⟩=>⟨r8,h13,⟨h12.1,⟨h12.2.1,⟨h12.2.2.1,(match h12.2.2.2 with|⟨x7,h10,h11,h9⟩=>⟨x7,h10,h11,(CallV.mono h9 (fun _ _ _ ⟨r9,h8,h7⟩=>⟨r9,h8,⟨h7.1,⟨h7.2.1,(Bb0 _ _ _ _ _ h7.2.2)⟩⟩⟩))⟩)⟩⟩⟩⟩))⟩)⟩⟩))⟩)⟩⟩)⟩,fun h27=>(fun b2 V12 h25 h26=>(((h30.2.2 x3 V8 h28 h29).2 h27) b2 V12 h25 h26))⟩⟩⟩⟩))⟩))⟩))⟩))⟩))⟩))⟩))
theorem waveportref07_stages_vc:type_of% (fun p0 p1 V R I0 J0=>waveportref07_stages_v0 p0 p1 V R I0 J0 (waveportref07_stages_sk.eq_1 ..)):=fun p0 p1 V R I0 J0=>waveportref07_stages_v0 p0 p1 V R I0 J0 (waveportref07_stages_sk.eq_1 ..)
end Go.Proofs.YtfdaofhjkdabbaaGreat
