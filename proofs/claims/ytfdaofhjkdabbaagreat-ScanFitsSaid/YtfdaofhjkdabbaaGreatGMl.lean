/- Part. -/
import Derived.Test.YtfdaofhjkdabbaaGreatGMsN
set_option maxRecDepth 100000
set_option maxHeartbeats 4000000
namespace Go.Proofs.YtfdaofhjkdabbaaGreat
open Go Go.Vc Go.Proofs
open Int (toNat)
open Option (isSome map)
open Go.Proofs.Tryz (prog)
open Go.IntKind (i8 i16 i32 i64 u8 u16 u32 u64)
structure J00 where
 t20:Int
 o0:View
 o17:List Value
structure K00 where
 t6l:Nat
 t6c:Nat
 t19:Int
structure L00 where
 t25:Int
 o0:View
 o17:List Value
structure M00 where
 t6l:Nat
 t6c:Nat
 t7:Int
 t19:Int
 t20:Int
def N04 (p0:Sl) (c:K00) (w x:J00):Prop:=(Q1 (.val (p0.v))∧Q1 (.osl 17 0 c.t6l c.t6c)∧Q1 (.val (.int .i64 c.t19))∧E2 (.val (.int .i64 w.t20)) (.val (.int .i64 x.t20))∧True)∧(O2 ⟨0,.reg w.o0⟩ ⟨0,.reg x.o0⟩∧O2 ⟨45,.dyn w.o17⟩ ⟨45,.dyn x.o17⟩∧True)
def O04 (p0:Sl) (c:M00) (w x:L00):Prop:=(Q1 (.val (p0.v))∧Q1 (.osl 17 0 c.t6l c.t6c)∧Q1 (.val (.int .i64 c.t7))∧Q1 (.val (.int .i64 c.t19))∧Q1 (.val (.int .i64 c.t20))∧Q1 (.val (.int .i64 (p0.len:Int)))∧E2 (.val (.int .i64 w.t25)) (.val (.int .i64 x.t25))∧True)∧(O2 ⟨0,.reg w.o0⟩ ⟨0,.reg x.o0⟩∧O2 ⟨45,.dyn w.o17⟩ ⟨45,.dyn x.o17⟩∧True)
def A03 (p0:Sl) (V:View) (R:RT) (I0:IT K00 J00) (I1:IT M00 L00) (E0:IT K00 J00) (B0:BT K00 J00) (E1:IT M00 L00) (B1:BT M00 L00):Prop:=a00 prog 336 #[p0.v] V fun v V1=>∃(r1:Int) (r2:Bool),v = .tuple #[.int .i64 r1,.bool r2]∧((!r2)=true→((0:Nat)≠1)∧∀(V2:View),View.le V1 V2→(∀(b:Nat) (cs:Array Value),(fun _=>none:View) b=some cs→V2 b=some cs)→R (.tuple #[(Sl.mk none 0 0).v,.int .i64 4]) V2)∧((!r2)=false→((0:Int)≤r1∧(r1:Int)≤r1∧(24:Int)*r1≤281474976710656∧(r1:Int)≤9223372036854775807)∧E0 (K00.mk (toNat r1) (toNat r1) ((toNat r1:Nat):Int)) (J00.mk 0 (fun _=>none:View) ((List.replicate (toNat r1) [Value.slice none 0 0]).flatten)) V1∧(∀(x2:J00) (V3:View),View.le V1 V3→I0 (K00.mk (toNat r1) (toNat r1) ((toNat r1:Nat):Int)) x2 V3→((decide ((x2.t20:Int)<((toNat r1:Nat):Int)))=true→E1 (M00.mk (toNat r1) (toNat r1) x2.t20 ((toNat r1:Nat):Int) x2.t20) (L00.mk 0 x2.o0 x2.o17) V3∧(∀(x4:L00) (V4:View),View.le V3 V4→I1 (M00.mk (toNat r1) (toNat r1) x2.t20 ((toNat r1:Nat):Int) x2.t20) x4 V4→((decide ((x4.t25:Int)<(p0.len:Int)))=true→((0:Int)≤x2.t20∧(x2.t20:Int)<(toNat r1:Nat))∧∃x5:Sl,x4.o17[0+toNat x2.t20*1]?=some (x5.v)∧((0:Int)≤x4.t25∧(x4.t25:Int)<(p0.len:Nat)∧isSome p0.a=true)∧∃x6:Sl,n06 x4.o0 V4 (map (fun q=>Addr.add q (toNat x4.t25*1)) p0.a) (x6.v)∧((0:Int)≤x2.t20∧(x2.t20:Int)<(x6.len:Nat)∧isSome x6.a=true)∧∃x7:NumV,has2 x4.o0 V4 (map (fun q=>Addr.add q (toNat x2.t20*5)) x6.a) (x7.val).cells.toList∧isSome (map (fun q=>Addr.add q (toNat x2.t20*5)) x6.a)=true∧a00 prog 478 #[x7.val] V4 fun v V5=>∃r3:NumV,v=r3.val∧∀(b2:Nat) (V6:View),View.le V5 V6→View.Fin V6→V6 b2=some #[.bool r3.re.neg,r3.re.mag.v,.bool r3.im.neg,r3.im.mag.v,r3.under.v]→∃(l2:List Value) (l3:List Value),((x5.len:Nat)≤x5.cap∧(x5.a=none→(x5.cap:Nat)=0))∧has2 x4.o0 V6 x5.a l2∧List.length l2=x5.len*5∧has2 x4.o0 V6 (some (Addr.mk b2 0 none)) l3∧List.length l3=1*5∧(∀v∈l3,Value.oneCell' v=true)∧x5.len+1≤maxLen∧(x5.len+1)*88≤140737488355328∧((1:Nat)≠0→x5.len+1≤x5.cap→∃(b3 c2:Nat) (l4:List Value),x5.a=some (Addr.mk b3 c2 none)∧x4.o0 b3=some (List.toArray l4)∧c2+(x5.len+1)*5≤List.length l4)∧∀(a1:Option Addr) (c1:Nat) (m1:View),AppR x4.o0 V6 x5.a x5.len x5.cap 1 5 l2 l3 a1 c1 m1→((0:Int)≤x2.t20∧(x2.t20:Int)<(toNat r1:Nat)) ∧
 0+toNat x2.t20*1+1≤List.length x4.o17∧B1 (M00.mk (toNat r1) (toNat r1) x2.t20 ((toNat r1:Nat):Int) x2.t20) (L00.mk (i64.wrap (x4.t25+1)) m1 (List.set x4.o17 (0+toNat x2.t20*1) (.slice a1 (x5.len+1) c1))) V6 x4 V4)∧((decide ((x4.t25:Int)<(p0.len:Int)))=false→B0 (K00.mk (toNat r1) (toNat r1) ((toNat r1:Nat):Int)) (J00.mk (i64.wrap (x2.t20+1)) x4.o0 x4.o17) V4 x2 V3)))∧((decide ((x2.t20:Int)<((toNat r1:Nat):Int)))=false→((0:Nat)≠1)∧∀(V7:View),View.le V3 V7→(∀(b:Nat) (cs:Array Value),x2.o0 b=some cs→V7 b=some cs)→∀(b5:Nat) (V8:View),View.le V7 V8→V8 b5=some (List.toArray x2.o17)→R (.tuple #[(Sl.mk (some (Addr.mk b5 0 none)) (toNat r1) (toNat r1)).v,.int .i64 0]) V8)))
theorem x07 (p0:Sl) (V:View) (R:RT) (I0:IT K00 J00) (J0:JT K00 J00) (I1:IT M00 L00) (J1:JT M00 L00) {X:Prop} (e:A03 p0 V R I0 I1 I0 (fun c w V x U=>I0 c w V∧J0 c w V<J0 c x U) I1 (fun c w V x U=>I1 c w V∧J1 c w V<J1 c x U)=X) (h:X):a00 prog 261 #[p0.v] V R :=
 cv9 [p0.v] Tryz.func261 (by kernel_rfl) (.newR 0 0 (.seq (rG [66,98]) (.seq (rG [322,362,290,384,416,130,162]) (.seq (.seq (rG [450,500]) (.cond (.seq (rG [66,98]) (.pubR 0 .leaf)) .leaf)) (.seq (rG [514,547,194]) (.seq (.seq (rG [578,615,642]) (.block (.loop K00 J00 (fun σ=>K00.mk (gLen (gTm σ 6)) (gCap (gTm σ 6)) (gInt (gTm σ 19))) (fun c x=>{ tm:=spT 49 0 [(0,.val (p0.v)),(6,.osl 17 0 c.t6l c.t6c),(19,.val (.int .i64 c.t19)),(20,.val (.int .i64 x.t20))],own:=spO 49 0 [(0,⟨0,.reg x.o0⟩),(17,⟨45,.dyn x.o17⟩)] }) I0 J0 (.seq (rG [672]) (.seq (.cond .leaf .leaf) (.seq (.block (.seq (rG [706,226]) (.seq (rG [738,768,802]) (.block (.loop M00 L00 (fun σ=>M00.mk (gLen (gTm σ 6)) (gCap (gTm σ 6)) (gInt (gTm σ 7)) (gInt (gTm σ 19)) (gInt (gTm σ 20))) (fun c x=>{ tm:=spT 49 0 [(0,.val (p0.v)),(6,.osl 17 0 c.t6l c.t6c),(7,.val (.int .i64 c.t7)),(19,.val (.int .i64 c.t19)),(20,.val (.int .i64 c.t20)),(24,.val (.int .i64 (p0.len:Int))),(25,.val (.int .i64 x.t25))],own:=spO 49 0 [(0,⟨0,.reg x.o0⟩),(17,⟨45,.dyn x.o17⟩)] }) I1 J1 (.seq (rG [832]) (.seq (.cond .leaf .leaf) (.seq (.block (.seq (rG [866,258]) (.draw [(0,A 28 2),(1,A 29 2),(2,A 30 2),(3,A 31 2),(4,A 32 7),(5,A 17 4),(6,A 34 2),(7,A 35 2),(8,A 36 7),(9,A 0 22),(10,A 38 2),(11,A 39 7),(12,A 0 22),(13,A 41 0),(14,A 42 10),(15,A 43 11),(16,A 0 25),(17,A 45 7),(18,A 17 6)] [0,0,0,0,12,28,0,0,192,448,0,1984,4032,8128,16320,32704,65532,131071,262143]))) (rG [1472,802]))))))))) (rG [1504,642]))))))) (.seq (rG [1538,66,98]) (.pubR 0 (.pub 17 .leaf))))))))) (Eq.mpr (by kernel_rfl) (show A03 p0 V R I0 I1 (fun c w V=>∃x,N04 p0 c w x∧I0 c x V) (fun c w V y U=>∃x,N04 p0 c w x∧I0 c x V∧J0 c x V<J0 c y U) (fun c w V=>∃x,O04 p0 c w x∧I1 c x V) (fun c w V y U=>∃x,O04 p0 c w x∧I1 c x V∧J1 c x V<J1 c y U)from by
 have h:=Eq.mpr e h; unfold A03 at h ⊢; revert h; repeat' first|with_reducible exact id|refine And.imp ?_ ?_|refine forall_imp fun _ => ?_|refine Exists.imp fun _ => ?_|refine cvI fun _ _ => ?_|exact fun h=>⟨_,by(repeat' apply And.intro)<;>first|rfl|trivial,h⟩))
theorem z0b:type_of% (fun p0 V R I0 J0 I1 J1=>x07 p0 V R I0 J0 I1 J1 (A03.eq_1 ..)):=fun p0 V R I0 J0 I1 J1=>x07 p0 V R I0 J0 I1 J1 (A03.eq_1 ..)
structure U05 where
 u:Unit
structure u05 where
 t6:Sl
structure B03 where
 t38:Int
 o0:View
 o32:List Value
 o35:List Value
structure C03 where
 t6:Sl
 t8l:Nat
 t8c:Nat
 t9l:Nat
 t9c:Nat
 t36:Sl
 t37:Int
structure D03 where
 t45:Int
 o0:View
 o32:List Value
 o35:List Value
structure E03 where
 t6:Sl
 t8l:Nat
 t8c:Nat
 t9l:Nat
 t9c:Nat
 t10:Int
 t11:Sl
 t36:Sl
 t37:Int
 t38:Int
 t44:Int
structure F03 where
 t50:Int
 o0:View
 o13:NumV
 o32:List Value
structure G03 where
 t6:Sl
 t8l:Nat
 t8c:Nat
 t9l:Nat
 t9c:Nat
 t10:Int
 t11:Sl
 t12:Int
 t36:Sl
 t37:Int
 t38:Int
 t44:Int
 t45:Int
 o35:List Value
structure H03 where
 t81:Int
 o35:List Value
structure I03 where
 t6:Sl
 t8l:Nat
 t8c:Nat
 t9l:Nat
 t9c:Nat
 t10:Int
 t11:Sl
 t36:Sl
 t37:Int
 t38:Int
 o0:View
 o32:List Value
def B0g (p0:Sl) (p1:Sl) (c:u05) (_w _x:U05):Prop:=(Q1 (.val (p0.v))∧Q1 (.val (p1.v))∧Q1 (.val (c.t6.v))∧True)∧(O2 ⟨0,.reg (fun _=>none:View)⟩ ⟨0,.reg (fun _=>none:View)⟩∧True)
def d0a (p0:Sl) (p1:Sl) (c:C03) (w x:B03):Prop:=(Q1 (.val (p0.v))∧Q1 (.val (p1.v))∧Q1 (.val (c.t6.v))∧Q1 (.osl 32 0 c.t8l c.t8c)∧Q1 (.osl 35 0 c.t9l c.t9c)∧Q1 (.val (c.t36.v))∧Q1 (.val (.int .i64 c.t37))∧E2 (.val (.int .i64 w.t38)) (.val (.int .i64 x.t38))∧True)∧(O2 ⟨0,.reg w.o0⟩ ⟨0,.reg x.o0⟩∧O2 ⟨45,.dyn w.o32⟩ ⟨45,.dyn x.o32⟩∧O2 ⟨36,.dyn w.o35⟩ ⟨36,.dyn x.o35⟩∧True)
def e0a (p0:Sl) (p1:Sl) (c:E03) (w x:D03):Prop:=(Q1 (.val (p0.v))∧Q1 (.val (p1.v))∧Q1 (.val (c.t6.v))∧Q1 (.osl 32 0 c.t8l c.t8c)∧Q1 (.osl 35 0 c.t9l c.t9c)∧Q1 (.val (.int .i64 c.t10))∧Q1 (.val (c.t11.v))∧Q1 (.val (c.t36.v))∧Q1 (.val (.int .i64 c.t37))∧Q1 (.val (.int .i64 c.t38))∧Q1 (.val (.int .i64 c.t44))∧E2 (.val (.int .i64 w.t45)) (.val (.int .i64 x.t45))∧True)∧(O2 ⟨0,.reg w.o0⟩ ⟨0,.reg x.o0⟩∧O2 ⟨45,.dyn w.o32⟩ ⟨45,.dyn x.o32⟩∧O2 ⟨36,.dyn w.o35⟩ ⟨36,.dyn x.o35⟩∧True)
def f0a (p0:Sl) (p1:Sl) (c:G03) (w x:F03):Prop:=(Q1 (.val (p0.v))∧Q1 (.val (p1.v))∧Q1 (.val (c.t6.v))∧Q1 (.osl 32 0 c.t8l c.t8c)∧Q1 (.osl 35 0 c.t9l c.t9c)∧Q1 (.val (.int .i64 c.t10))∧Q1 (.val (c.t11.v))∧Q1 (.val (.int .i64 c.t12))∧Q1 (.own 13 0)∧Q1 (.val (c.t36.v))∧Q1 (.val (.int .i64 c.t37))∧Q1 (.val (.int .i64 c.t38))∧Q1 (.val (.int .i64 c.t44))∧Q1 (.val (.int .i64 c.t45))∧Q1 (.val (.int .i64 (p0.len:Int)))∧E2 (.val (.int .i64 w.t50)) (.val (.int .i64 x.t50))∧True)∧(O2 ⟨0,.reg w.o0⟩ ⟨0,.reg x.o0⟩∧O2 ⟨36,.fixed [.val (.bool w.o13.re.neg),.val (w.o13.re.mag.v),.val (.bool w.o13.im.neg),.val (w.o13.im.mag.v),.val (w.o13.under.v)]⟩ ⟨36,.fixed [.val (.bool x.o13.re.neg),.val (x.o13.re.mag.v),.val (.bool x.o13.im.neg),.val (x.o13.im.mag.v),.val (x.o13.under.v)]⟩∧O2 ⟨45,.dyn w.o32⟩ ⟨45,.dyn x.o32⟩∧O2 ⟨36,.dyn c.o35⟩ ⟨36,.dyn c.o35⟩∧True)
def g0a (p0:Sl) (p1:Sl) (c:I03) (w x:H03):Prop:=(Q1 (.val (p0.v))∧Q1 (.val (p1.v))∧Q1 (.val (c.t6.v))∧Q1 (.osl 32 0 c.t8l c.t8c)∧Q1 (.osl 35 0 c.t9l c.t9c)∧Q1 (.val (.int .i64 c.t10))∧Q1 (.val (c.t11.v))∧Q1 (.val (c.t36.v))∧Q1 (.val (.int .i64 c.t37))∧Q1 (.val (.int .i64 c.t38))∧Q1 (.val (.int .i64 (p0.len:Int)))∧E2 (.val (.int .i64 w.t81)) (.val (.int .i64 x.t81))∧True)∧(O2 ⟨0,.reg c.o0⟩ ⟨0,.reg c.o0⟩∧O2 ⟨45,.dyn c.o32⟩ ⟨45,.dyn c.o32⟩∧O2 ⟨36,.dyn w.o35⟩ ⟨36,.dyn x.o35⟩∧True)
def F08 (p0:Sl) (p1:Sl) (V:View) (R:RT) (I0:IT u05 U05) (I1:IT C03 B03) (I2:IT E03 D03) (I3:IT G03 F03) (I4:IT I03 H03) (E0:IT u05 U05) (E1:IT C03 B03) (B1:BT C03 B03) (E2:IT E03 D03) (B2:BT E03 D03) (E3:IT G03 F03) (B3:BT G03 F03) (E4:IT I03 H03) (B4:BT I03 H03):Prop:=a00 prog 261 #[p0.v] V fun v V1=>∃(r1:Sl) (r2:Int),v = .tuple #[r1.v,.int .i64 r2]∧((((r2:Int) != 0)=true→((0:Nat)≠1)∧∀(V3:View),View.le V1 V3→(∀(b:Nat) (cs:Array Value),(fun _=>none:View) b=some cs→V3 b=some cs)→R (.tuple #[(Sl.mk none 0 0).v,.int .i64 4]) V3)∧(((r2:Int) != 0)=false→((((p1.len:Int):Int) != (p0.len:Int))=true→((0:Nat)≠1)∧∀(V4:View),View.le V1 V4→(∀(b:Nat) (cs:Array Value),(fun _=>none:View) b=some cs→V4 b=some cs)→R (.tuple #[(Sl.mk none 0 0).v,.int .i64 4]) V4)∧((((p1.len:Int):Int) != (p0.len:Int))=false→E0 (u05.mk r1) (U05.mk ()) V1)))∧(∀(x1:U05) (V2:View),View.le V1 V2→I0 (u05.mk r1) x1 V2→((0:Int)≤(r1.len:Int)∧((r1.len:Int):Int)≤(r1.len:Int)∧(24:Int)*(r1.len:Int)≤281474976710656∧((r1.len:Int):Int)≤9223372036854775807)∧((0:Int)≤(r1.len:Int)∧((r1.len:Int):Int)≤(r1.len:Int)∧(88:Int)*(r1.len:Int)≤281474976710656∧((r1.len:Int):Int)≤9223372036854775807)∧E1 (C03.mk r1 (toNat (r1.len:Int)) (toNat (r1.len:Int)) (toNat (r1.len:Int)) (toNat (r1.len:Int)) r1 (r1.len:Int)) (B03.mk 0 (fun _=>none:View) ((List.replicate (toNat (r1.len:Int)) [Value.slice none 0 0]).flatten) ((List.replicate (toNat (r1.len:Int)) [Value.bool false,Value.slice none 0 0,Value.bool false,Value.slice none 0 0,Value.slice none 0 0]).flatten)) V2∧(∀(x4:B03) (V5:View),View.le V2 V5→I1 (C03.mk r1 (toNat (r1.len:Int)) (toNat (r1.len:Int)) (toNat (r1.len:Int)) (toNat (r1.len:Int)) r1 (r1.len:Int)) x4 V5→((decide ((x4.t38:Int)<(r1.len:Int)))=true→((0:Int)≤x4.t38∧(x4.t38:Int)<(r1.len:Nat)∧isSome r1.a=true)∧∃x5:Sl,n06 x4.o0 V5 (map (fun q=>Addr.add q (toNat x4.t38*1)) r1.a) (x5.v)∧E2 (E03.mk r1 (toNat (r1.len:Int)) (toNat (r1.len:Int)) (toNat (r1.len:Int)) (toNat (r1.len:Int)) x4.t38 x5 r1 (r1.len:Int) x4.t38 (r1.len:Int)) (D03.mk 0 x4.o0 x4.o32 x4.o35) V5∧(∀(x7:D03) (V6:View),View.le V5 V6→I2 (E03.mk r1 (toNat (r1.len:Int)) (toNat (r1.len:Int)) (toNat (r1.len:Int)) (toNat (r1.len:Int)) x4.t38 x5 r1 (r1.len:Int) x4.t38 (r1.len:Int)) x7 V6→((decide ((x7.t45:Int)<(r1.len:Int)))=true→E3 (G03.mk r1 (toNat (r1.len:Int)) (toNat (r1.len:Int)) (toNat (r1.len:Int)) (toNat (r1.len:Int)) x4.t38 x5 x7.t45 r1 (r1.len:Int) x4.t38 (r1.len:Int) x7.t45 x7.o35) (F03.mk 0 x7.o0 (NumV.mk (WhV.mk false (Sl.mk none 0 0)) (WhV.mk false (Sl.mk none 0 0)) (Sl.mk none 0 0)) x7.o32) V6∧(∀(x9:F03) (V7:View),View.le V6 V7→I3 (G03.mk r1 (toNat (r1.len:Int)) (toNat (r1.len:Int)) (toNat (r1.len:Int)) (toNat (r1.len:Int)) x4.t38 x5 x7.t45 r1 (r1.len:Int) x4.t38 (r1.len:Int) x7.t45 x7.o35) x9 V7→((decide ((x9.t50:Int)<(p0.len:Int)))=true→((0:Int)≤x9.t50∧(x9.t50:Int)<(x5.len:Nat)∧isSome x5.a=true)∧∃x10:NumV,has2 x9.o0 V7 (map (fun q=>Addr.add q (toNat x9.t50*5)) x5.a) (x10.val).cells.toList∧isSome (map (fun q=>Addr.add q (toNat x9.t50*5)) x5.a)=true∧((0:Int)≤x9.t50∧(x9.t50:Int)<(p0.len:Nat)∧isSome p0.a=true)∧∃x11:Sl,n06 x9.o0 V7 (map (fun q=>Addr.add q (toNat x9.t50*1)) p0.a) (x11.v)∧((0:Int)≤x7.t45∧(x7.t45:Int)<(x11.len:Nat)∧isSome x11.a=true)∧∃x12:NumV,has2 x9.o0 V7 (map (fun q=>Addr.add q (toNat x7.t45*5)) x11.a) (x12.val).cells.toList∧isSome (map (fun q=>Addr.add q (toNat x7.t45*5)) x11.a)=true∧a00 prog 177 #[x10.val,x12.val] V7 fun v V8=>∃r3:NumV,v=r3.val∧a00 prog 165 #[x9.o13.val,r3.val] V8 fun v V9=>∃r4:NumV,v=r4.val∧B3 (G03.mk r1 (toNat (r1.len:Int)) (toNat (r1.len:Int)) (toNat (r1.len:Int)) (toNat (r1.len:Int)) x4.t38 x5 x7.t45 r1 (r1.len:Int) x4.t38 (r1.len:Int) x7.t45 x7.o35) (F03.mk (i64.wrap (x9.t50+1)) x9.o0 r4 x9.o32) V9 x9 V7)∧((decide ((x9.t50:Int)<(p0.len:Int)))=false→((0:Int)≤x4.t38∧(x4.t38:Int)<(toNat (r1.len:Int):Nat))∧∃x14:Sl,x9.o32[0+toNat x4.t38*1]?=some (x14.v)∧∀(b3:Nat) (V10:View),View.le V7 V10→View.Fin V10→V10 b3=some #[.bool x9.o13.re.neg,x9.o13.re.mag.v,.bool x9.o13.im.neg,x9.o13.im.mag.v,x9.o13.under.v]→∃(l3:List Value) (l4:List Value),((x14.len:Nat)≤x14.cap∧(x14.a=none→(x14.cap:Nat)=0))∧has2 x9.o0 V10 x14.a l3∧List.length l3=x14.len*5∧has2 x9.o0 V10 (some (Addr.mk b3 0 none)) l4∧List.length l4=1*5∧(∀v∈l4,Value.oneCell' v=true)∧x14.len+1≤maxLen∧(x14.len+1)*88≤140737488355328∧((1:Nat)≠0→x14.len+1≤x14.cap→∃(b4 c2:Nat) (l5:List Value),x14.a=some (Addr.mk b4 c2 none)∧x9.o0 b4=some (List.toArray l5)∧c2+(x14.len+1)*5≤List.length l5)∧∀(a1:Option Addr) (c1:Nat) (m1:View),AppR x9.o0 V10 x14.a x14.len x14.cap 1 5 l3 l4 a1 c1 m1→((0:Int)≤x4.t38∧(x4.t38:Int)<(toNat (r1.len:Int):Nat)) ∧
 0+toNat x4.t38*1+1≤List.length x9.o32∧B2 (E03.mk r1 (toNat (r1.len:Int)) (toNat (r1.len:Int)) (toNat (r1.len:Int)) (toNat (r1.len:Int)) x4.t38 x5 r1 (r1.len:Int) x4.t38 (r1.len:Int)) (D03.mk (i64.wrap (x7.t45+1)) m1 (List.set x9.o32 (0+toNat x4.t38*1) (.slice a1 (x14.len+1) c1)) x7.o35) V10 x7 V6)))∧((decide ((x7.t45:Int)<(r1.len:Int)))=false→E4 (I03.mk r1 (toNat (r1.len:Int)) (toNat (r1.len:Int)) (toNat (r1.len:Int)) (toNat (r1.len:Int)) x4.t38 x5 r1 (r1.len:Int) x4.t38 x7.o0 x7.o32) (H03.mk 0 x7.o35) V6∧(∀(x17:H03) (V11:View),View.le V6 V11→I4 (I03.mk r1 (toNat (r1.len:Int)) (toNat (r1.len:Int)) (toNat (r1.len:Int)) (toNat (r1.len:Int)) x4.t38 x5 r1 (r1.len:Int) x4.t38 x7.o0 x7.o32) x17 V11→((decide ((x17.t81:Int)<(p0.len:Int)))=true→((0:Int)≤x4.t38∧(x4.t38:Int)<(toNat (r1.len:Int):Nat))∧∃x18:NumV,List.take 5 (List.drop (0+toNat x4.t38*5) x17.o35)=(x18.val).cells.toList∧((0:Int)≤x17.t81∧(x17.t81:Int)<(x5.len:Nat)∧isSome x5.a=true)∧∃x19:NumV,has2 x7.o0 V11 (map (fun q=>Addr.add q (toNat x17.t81*5)) x5.a) (x19.val).cells.toList∧isSome (map (fun q=>Addr.add q (toNat x17.t81*5)) x5.a)=true∧((0:Int)≤x17.t81∧(x17.t81:Int)<(p1.len:Nat)∧isSome p1.a=true)∧∃x20:NumV,has2 x7.o0 V11 (map (fun q=>Addr.add q (toNat x17.t81*5)) p1.a) (x20.val).cells.toList∧isSome (map (fun q=>Addr.add q (toNat x17.t81*5)) p1.a)=true∧a00 prog 177 #[x19.val,x20.val] V11 fun v V12=>∃r5:NumV,v=r5.val∧a00 prog 165 #[x18.val,r5.val] V12 fun v V13=>∃r6:NumV,v=r6.val∧((0:Int)≤x4.t38∧(x4.t38:Int)<(toNat (r1.len:Int):Nat)) ∧
 0+toNat x4.t38*5+5≤List.length x17.o35∧B4 (I03.mk r1 (toNat (r1.len:Int)) (toNat (r1.len:Int)) (toNat (r1.len:Int)) (toNat (r1.len:Int)) x4.t38 x5 r1 (r1.len:Int) x4.t38 x7.o0 x7.o32) (H03.mk (i64.wrap (x17.t81+1)) (setL x17.o35 (0+toNat x4.t38*5) [.bool r6.re.neg,r6.re.mag.v,.bool r6.im.neg,r6.im.mag.v,r6.under.v])) V13 x17 V11)∧((decide ((x17.t81:Int)<(p0.len:Int)))=false→B1 (C03.mk r1 (toNat (r1.len:Int)) (toNat (r1.len:Int)) (toNat (r1.len:Int)) (toNat (r1.len:Int)) r1 (r1.len:Int)) (B03.mk (i64.wrap (x4.t38+1)) x7.o0 x7.o32 x17.o35) V11 x4 V5)))))∧((decide ((x4.t38:Int)<(r1.len:Int)))=false→((0:Nat)≠1)∧∀(V14:View),View.le V5 V14→(∀(b:Nat) (cs:Array Value),x4.o0 b=some cs→V14 b=some cs)→∀(b6:Nat) (V15:View),View.le V14 V15→V15 b6=some (List.toArray x4.o32)→∀(b7:Nat) (V16:View),View.le V15 V16→V16 b7=some (List.toArray x4.o35)→a00 prog 262 #[(Sl.mk (some (Addr.mk b6 0 none)) (toNat (r1.len:Int)) (toNat (r1.len:Int))).v,(Sl.mk (some (Addr.mk b7 0 none)) (toNat (r1.len:Int)) (toNat (r1.len:Int))).v] V16 fun v V17=>∃(r7:Sl) (r8:Int),v = .tuple #[r7.v,.int .i64 r8]∧R (.tuple #[r7.v,.int .i64 r8]) V17)))
theorem C0g (p0:Sl) (p1:Sl) (V:View) (R:RT) (I0:IT u05 U05) (I1:IT C03 B03) (J1:JT C03 B03) (I2:IT E03 D03) (J2:JT E03 D03) (I3:IT G03 F03) (J3:JT G03 F03) (I4:IT I03 H03) (J4:JT I03 H03) {X:Prop} (e:F08 p0 p1 V R I0 I1 I2 I3 I4 I0 I1 (fun c w V x U=>I1 c w V∧J1 c w V<J1 c x U) I2 (fun c w V x U=>I2 c w V∧J2 c w V<J2 c x U) I3 (fun c w V x U=>I3 c w V∧J3 c w V<J3 c x U) I4 (fun c w V x U=>I4 c w V∧J4 c w V<J4 c x U)=X) (h:X):a00 prog 148 #[p0.v,p1.v] V R :=
 cv9 [p0.v,p1.v] Tryz.func148 (by kernel_rfl) (.newR 0 0 (.seq (rG [130,162]) (.seq (rG [546,586,514,608,640,194,226]) (.cut u05 U05 (fun σ=>u05.mk (Sl.mk (gSlA (gTm σ 6)) (gSlL (gTm σ 6)) (gSlC (gTm σ 6)))) (fun c x=>{ tm:=spT 108 0 [(0,.val (p0.v)),(1,.val (p1.v)),(6,.val (c.t6.v))],own:=spO 108 0 [(0,⟨0,.reg (fun _=>none:View)⟩)] }) I0 (.seq (.reg [A 21 2,A 22 0,⟨23,2,true⟩,A 24 2,A 25 0,A 26 2,A 27 0,A 28 0,A 29 20]) (.cond (.seq (rG [130,162]) (.pubR 0 .leaf)) .leaf)) (.seq (rG [962,992,1027,258]) (.seq (rG [1058,1088,1123,290]) (.seq (.seq (rG [1154,1184,1218]) (.block (.loop C03 B03 (fun σ=>C03.mk (Sl.mk (gSlA (gTm σ 6)) (gSlL (gTm σ 6)) (gSlC (gTm σ 6))) (gLen (gTm σ 8)) (gCap (gTm σ 8)) (gLen (gTm σ 9)) (gCap (gTm σ 9)) (Sl.mk (gSlA (gTm σ 36)) (gSlL (gTm σ 36)) (gSlC (gTm σ 36))) (gInt (gTm σ 37))) (fun c x=>{ tm:=spT 108 0 [(0,.val (p0.v)),(1,.val (p1.v)),(6,.val (c.t6.v)),(8,.osl 32 0 c.t8l c.t8c),(9,.osl 35 0 c.t9l c.t9c),(36,.val (c.t36.v)),(37,.val (.int .i64 c.t37)),(38,.val (.int .i64 x.t38))],own:=spO 108 0 [(0,⟨0,.reg x.o0⟩),(32,⟨45,.dyn x.o32⟩),(35,⟨36,.dyn x.o35⟩)] }) I1 J1 (.seq (rG [1248]) (.seq (.cond .leaf .leaf) (.seq (.block (.seq (rG [1282,1319,22,322,354]) (.seq (.seq (rG [1378,1408,1442]) (.block (.loop E03 D03 (fun σ=>E03.mk (Sl.mk (gSlA (gTm σ 6)) (gSlL (gTm σ 6)) (gSlC (gTm σ 6))) (gLen (gTm σ 8)) (gCap (gTm σ 8)) (gLen (gTm σ 9)) (gCap (gTm σ 9)) (gInt (gTm σ 10)) (Sl.mk (gSlA (gTm σ 11)) (gSlL (gTm σ 11)) (gSlC (gTm σ 11))) (Sl.mk (gSlA (gTm σ 36)) (gSlL (gTm σ 36)) (gSlC (gTm σ 36))) (gInt (gTm σ 37)) (gInt (gTm σ 38)) (gInt (gTm σ 44))) (fun c x=>{ tm:=spT 108 0 [(0,.val (p0.v)),(1,.val (p1.v)),(6,.val (c.t6.v)),(8,.osl 32 0 c.t8l c.t8c),(9,.osl 35 0 c.t9l c.t9c),(10,.val (.int .i64 c.t10)),(11,.val (c.t11.v)),(36,.val (c.t36.v)),(37,.val (.int .i64 c.t37)),(38,.val (.int .i64 c.t38)),(44,.val (.int .i64 c.t44)),(45,.val (.int .i64 x.t45))],own:=spO 108 0 [(0,⟨0,.reg x.o0⟩),(32,⟨45,.dyn x.o32⟩),(35,⟨36,.dyn x.o35⟩)] }) I2 J2 (.seq (rG [1472]) (.seq (.cond .leaf .leaf) (.seq (.block (.seq (rG [1506,386]) (.seq (rG [419]) (.seq (.seq (rG [1538,1568,1602]) (.block (.loop G03 F03 (fun σ=>G03.mk (Sl.mk (gSlA (gTm σ 6)) (gSlL (gTm σ 6)) (gSlC (gTm σ 6))) (gLen (gTm σ 8)) (gCap (gTm σ 8)) (gLen (gTm σ 9)) (gCap (gTm σ 9)) (gInt (gTm σ 10)) (Sl.mk (gSlA (gTm σ 11)) (gSlL (gTm σ 11)) (gSlC (gTm σ 11))) (gInt (gTm σ 12)) (Sl.mk (gSlA (gTm σ 36)) (gSlL (gTm σ 36)) (gSlC (gTm σ 36))) (gInt (gTm σ 37)) (gInt (gTm σ 38)) (gInt (gTm σ 44)) (gInt (gTm σ 45)) (gDyn σ 35)) (fun c x=>{ tm:=spT 108 0 [(0,.val (p0.v)),(1,.val (p1.v)),(6,.val (c.t6.v)),(8,.osl 32 0 c.t8l c.t8c),(9,.osl 35 0 c.t9l c.t9c),(10,.val (.int .i64 c.t10)),(11,.val (c.t11.v)),(12,.val (.int .i64 c.t12)),(13,.own 13 0),(36,.val (c.t36.v)),(37,.val (.int .i64 c.t37)),(38,.val (.int .i64 c.t38)),(44,.val (.int .i64 c.t44)),(45,.val (.int .i64 c.t45)),(49,.val (.int .i64 (p0.len:Int))),(50,.val (.int .i64 x.t50))],own:=spO 108 0 [(0,⟨0,.reg x.o0⟩),(13,⟨36,.fixed [.val (.bool x.o13.re.neg),.val (x.o13.re.mag.v),.val (.bool x.o13.im.neg),.val (x.o13.im.mag.v),.val (x.o13.under.v)]⟩),(32,⟨45,.dyn x.o32⟩),(35,⟨36,.dyn c.o35⟩)] }) I3 J3 (.seq (rG [1632]) (.seq (.cond .leaf .leaf) (.seq (.block (.seq (rG [1666,450]) (.draw [(0,A 13 4),(1,A 54 2),(2,A 55 2),(3,A 56 7),(4,A 0 22),(5,A 58 2),(6,A 59 2),(7,A 60 7),(8,A 0 22),(9,A 62 2),(10,A 63 7),(11,A 0 22),(12,A 65 10),(13,A 66 10),(14,A 13 6)] [0,0,0,6,14,0,0,96,224,0,992,2016,4094,8191,16383]))) (rG [2144,1602]))))))) (.draw [(0,A 68 2),(1,A 69 2),(2,A 70 2),(3,A 71 2),(4,A 72 7),(5,A 32 4),(6,A 13 4),(7,A 75 11),(8,A 0 25),(9,A 77 7),(10,A 32 6)] [0,0,0,0,12,28,0,64,252,511,1023]))))) (rG [2496,1442]))))))) (.seq (rG [2530,2560,2594]) (.block (.loop I03 H03 (fun σ=>I03.mk (Sl.mk (gSlA (gTm σ 6)) (gSlL (gTm σ 6)) (gSlC (gTm σ 6))) (gLen (gTm σ 8)) (gCap (gTm σ 8)) (gLen (gTm σ 9)) (gCap (gTm σ 9)) (gInt (gTm σ 10)) (Sl.mk (gSlA (gTm σ 11)) (gSlL (gTm σ 11)) (gSlC (gTm σ 11))) (Sl.mk (gSlA (gTm σ 36)) (gSlL (gTm σ 36)) (gSlC (gTm σ 36))) (gInt (gTm σ 37)) (gInt (gTm σ 38)) (gReg σ 0) (gDyn σ 32)) (fun c x=>{ tm:=spT 108 0 [(0,.val (p0.v)),(1,.val (p1.v)),(6,.val (c.t6.v)),(8,.osl 32 0 c.t8l c.t8c),(9,.osl 35 0 c.t9l c.t9c),(10,.val (.int .i64 c.t10)),(11,.val (c.t11.v)),(36,.val (c.t36.v)),(37,.val (.int .i64 c.t37)),(38,.val (.int .i64 c.t38)),(80,.val (.int .i64 (p0.len:Int))),(81,.val (.int .i64 x.t81))],own:=spO 108 0 [(0,⟨0,.reg c.o0⟩),(32,⟨45,.dyn c.o32⟩),(35,⟨36,.dyn x.o35⟩)] }) I4 J4 (.seq (rG [2624]) (.seq (.cond .leaf .leaf) (.seq (.block (.seq (rG [2658,482]) (.draw [(0,A 84 2),(1,A 85 2),(2,A 86 2),(3,A 87 2),(4,A 88 7),(5,A 35 4),(6,A 90 2),(7,A 91 2),(8,A 92 7),(9,A 0 22),(10,A 94 2),(11,A 95 2),(12,A 96 7),(13,A 0 22),(14,A 98 10),(15,A 99 10),(16,A 100 7),(17,A 35 6)] [0,0,0,0,12,28,0,0,192,448,0,0,3072,7168,16320,32764,65535,131071]))) (rG [3232,2594])))))))))) (rG [3264,1218]))))))) (.seq (.pubR 0 (.pub 32 (.pub 35 (rG [3298,3330,3370,3392,3424,130,162])))) .leaf)))))))) (Eq.mpr (by kernel_rfl) (show F08 p0 p1 V R I0 I1 I2 I3 I4 (fun c w V=>∃x,B0g p0 p1 c w x∧I0 c x V) (fun c w V=>∃x,d0a p0 p1 c w x∧I1 c x V) (fun c w V y U=>∃x,d0a p0 p1 c w x∧I1 c x V∧J1 c x V<J1 c y U) (fun c w V=>∃x,e0a p0 p1 c w x∧I2 c x V) (fun c w V y U=>∃x,e0a p0 p1 c w x∧I2 c x V∧J2 c x V<J2 c y U) (fun c w V=>∃x,f0a p0 p1 c w x∧I3 c x V) (fun c w V y U=>∃x,f0a p0 p1 c w x∧I3 c x V∧J3 c x V<J3 c y U) (fun c w V=>∃x,g0a p0 p1 c w x∧I4 c x V) (fun c w V y U=>∃x,g0a p0 p1 c w x∧I4 c x V∧J4 c x V<J4 c y U)from by
 have h:=Eq.mpr e h; unfold F08 at h ⊢; revert h; repeat' first|with_reducible exact id|refine And.imp ?_ ?_|refine forall_imp fun _ => ?_|refine Exists.imp fun _ => ?_|refine cvI fun _ _ => ?_|exact fun h=>⟨_,by(repeat' apply And.intro)<;>first|rfl|trivial,h⟩))
theorem N0m:type_of% (fun p0 p1 V R I0 I1 J1 I2 J2 I3 J3 I4 J4=>C0g p0 p1 V R I0 I1 J1 I2 J2 I3 J3 I4 J4 (F08.eq_1 ..)):=fun p0 p1 V R I0 I1 J1 I2 J2 I3 J3 I4 J4=>C0g p0 p1 V R I0 I1 J1 I2 J2 I3 J3 I4 J4 (F08.eq_1 ..)
