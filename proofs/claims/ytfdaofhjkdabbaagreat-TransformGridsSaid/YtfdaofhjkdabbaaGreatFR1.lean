/- Part of the proof; it has the parts FR1. -/
import Derived.Test.YtfdaofhjkdabbaaGreatFR2
set_option maxRecDepth 100000
set_option maxHeartbeats 4000000
namespace Go.Proofs.YtfdaofhjkdabbaaGreat
open Go Go.Vc Go.Proofs
open Go.IntKind (i8 i16 i32 i64 u8 u16 u32 u64)
structure L_ref1_trim_0 where
 t3:Int
def ref1_trim_f0 (p0:Sl) (_c:Unit) (w x:L_ref1_trim_0):Prop:=(Q1 (.val (p0.v))∧E2 (.val (.int .i64 w.t3)) (.val (.int .i64 x.t3))∧True)∧(True)
def ref1_trim_sk (p0:Sl) (V:View) (R:Value→View→Prop) (I0:Unit→L_ref1_trim_0→View→Prop) (E0:Unit→L_ref1_trim_0→View→Prop) (B0:Unit→L_ref1_trim_0→View→L_ref1_trim_0→View→Prop):Prop :=
 E0 () (L_ref1_trim_0.mk (p0.len:Int)) V ∧
 (∀(x2:L_ref1_trim_0) (V1:View),View.le V V1→I0 () x2 V1 →
 ((decide ((x2.t3:Int)>0))=true →
 ((0:Int)≤(i64.wrap (x2.t3-1))∧((i64.wrap (x2.t3-1)):Int)<(p0.len:Nat)∧Option.isSome p0.a=true) ∧
 ∃x3:Int,View.load V1 (Option.map (fun q=>Addr.add q (Int.toNat (i64.wrap (x2.t3-1))*1)) p0.a)=some (.int .u32 x3) ∧
 (((x3:Int)==0)=true →
 B0 () (L_ref1_trim_0.mk (i64.wrap (x2.t3-1))) V1 x2 V1) ∧
 (((x3:Int)==0)=false →
 ((0:Int)≤0∧(0:Int)≤x2.t3∧(x2.t3:Int)≤(p0.cap:Nat)) ∧
 R ((Sl.mk (if p0.cap=Int.toNat 0 then p0.a else Option.map (fun q=>Addr.add q (Int.toNat 0*1)) p0.a) (Int.toNat x2.t3-Int.toNat 0) (p0.cap-Int.toNat 0)).v) V1)) ∧
 ((decide ((x2.t3:Int)>0))=false →
 (false=true →
 B0 () (L_ref1_trim_0.mk (i64.wrap (x2.t3-1))) V1 x2 V1) ∧
 (false=false →
 ((0:Int)≤0∧(0:Int)≤x2.t3∧(x2.t3:Int)≤(p0.cap:Nat)) ∧
 R ((Sl.mk (if p0.cap=Int.toNat 0 then p0.a else Option.map (fun q=>Addr.add q (Int.toNat 0*1)) p0.a) (Int.toNat x2.t3-Int.toNat 0) (p0.cap-Int.toNat 0)).v) V1)))
theorem ref1_trim_v0 (p0:Sl) (V:View) (R:Value→View→Prop) (I0:Unit→L_ref1_trim_0→View→Prop) (J0:Unit→L_ref1_trim_0→View→Nat) {X:Prop} (e:ref1_trim_sk p0 V R I0 I0 (fun c w V x U=>I0 c w V∧J0 c w V<J0 c x U)=X) (h:X) :
 CallV Tryz.prog 348 #[p0.v] V R :=
 calls_of_vc (Shp:=Shp) hmixed Tryz.func348 (c:=Tryz.f348.body.getD .skip) (args:=[p0.v]) (by kernel_rfl)
 (.seq (.reg [A 2 2]) (.seq (.reg [A 4 2,A 5 0,A 3 2]) (.seq (.block (.loop Unit L_ref1_trim_0 (fun _=>()) (fun c x=>{ tm:=spT 21 0 [(0,.val (p0.v)),(3,.val (.int .i64 x.t3))],own:=spO 21 0 [] }) I0 J0 (.seq (.seq (.reg [A 6 2,A 7 0,⟨8,2,true⟩,A 9 2,A 10 2,A 11 0,A 12 7,A 13 5,A 14 0,A 15 2]) (.cond .leaf .leaf)) (.block (.reg [A 16 2,A 17 0,A 3 2]))))) (.seq (.reg [A 18 2,A 19 2,A 20 7,A 2 2]) .leaf))))
 (Eq.mpr (by kernel_rfl) (show ref1_trim_sk p0 V R I0 (fun c w V=>∃x,ref1_trim_f0 p0 c w x∧I0 c x V) (fun c w V y U=>∃x,ref1_trim_f0 p0 c w x∧I0 c x V∧J0 c x V<J0 c y U)from by
 have h:=Eq.mpr e h; unfold ref1_trim_sk at h ⊢; have Ee0:=fun c w V (h:I0 c w V)=>(⟨w,⟨⟨rfl,rfl,trivial⟩,trivial⟩,h⟩:∃x,ref1_trim_f0 p0 c w x∧I0 c x V); have Bb0:=fun c w V y U (h:I0 c w V∧J0 c w V<J0 c y U)=>(⟨w,⟨⟨rfl,rfl,trivial⟩,trivial⟩,h⟩:∃x,ref1_trim_f0 p0 c w x∧I0 c x V∧J0 c x V<J0 c y U); exact⟨(Ee0 _ _ _ h.1),fun x2 V1 h6 h7=>⟨fun h5=>⟨((h.2 x2 V1 h6 h7).1 h5).1,(match ((h.2 x2 V1 h6 h7).1 h5).2 with|⟨x3,h3,h2⟩=>⟨x3,h3,⟨fun h1=>(Bb0 _ _ _ _ _ (h2.1 h1)),fun h1=>⟨(h2.2 h1).1,(h2.2 h1).2⟩⟩⟩)⟩,fun h5=>⟨fun h4=>(Bb0 _ _ _ _ _ (((h.2 x2 V1 h6 h7).2 h5).1 h4)),fun h4=>⟨(((h.2 x2 V1 h6 h7).2 h5).2 h4).1,(((h.2 x2 V1 h6 h7).2 h5).2 h4).2⟩⟩⟩⟩))
theorem ref1_trim_vc:type_of% (fun p0 V R I0 J0=>ref1_trim_v0 p0 V R I0 J0 (ref1_trim_sk.eq_1 ..)):=fun p0 V R I0 J0=>ref1_trim_v0 p0 V R I0 J0 (ref1_trim_sk.eq_1 ..)
theorem ref1_NatOf_vc (p0:Int) (V:View) (R:Value→View→Prop)
 (h :
 ∀(b1:Nat) (V1:View),View.le V V1→View.Fin V1→V1 b1=some #[.int .u32 (u32.wrap p0),.int .u32 (u32.wrap (Int.fdiv p0 (2^(min (Int.toNat 32) (u64.bits)))))] →
 CallV Tryz.prog 348 #[(Sl.mk (some (Addr.mk b1 0 none)) 2 2).v] V1 fun v V2=>∃r1:Sl,v=r1.v ∧
 R (r1.v) V2) :
 CallV Tryz.prog 341 #[.int .u64 p0] V R :=
 calls_of_vc (Shp:=Shp) hmixed Tryz.func341 (c:=Tryz.f341.body.getD .skip) (args:=[.int .u64 p0]) (by kernel_rfl)
 (.seq (.reg [A 2 2]) (.seq (.reg [A 3 2,A 4 0,A 5 2,A 6 0,A 7 0,A 8 11,A 9 10,A 2 2]) .leaf))
 (Eq.mpr (by kernel_rfl) h)
structure L_ref1_NatCmp_0 where
 t5:Int
def ref1_NatCmp_f0 (p0:Sl) (p1:Sl) (_c:Unit) (w x:L_ref1_NatCmp_0):Prop:=(Q1 (.val (p0.v))∧Q1 (.val (p1.v))∧E2 (.val (.int .i64 w.t5)) (.val (.int .i64 x.t5))∧True)∧(True)
def ref1_NatCmp_sk (p0:Sl) (p1:Sl) (V:View) (R:Value→View→Prop) (I0:Unit→L_ref1_NatCmp_0→View→Prop) (E0:Unit→L_ref1_NatCmp_0→View→Prop) (B0:Unit→L_ref1_NatCmp_0→View→L_ref1_NatCmp_0→View→Prop):Prop :=
 ((((p0.len:Int):Int) != (p1.len:Int))=true →
 ((decide (((p0.len:Int):Int)<(p1.len:Int)))=true →
 R (.int .i64 (-1)) V) ∧
 ((decide (((p0.len:Int):Int)<(p1.len:Int)))=false →
 R (.int .i64 1) V)) ∧
 ((((p0.len:Int):Int) != (p1.len:Int))=false →
 E0 () (L_ref1_NatCmp_0.mk (i64.wrap ((p0.len:Int)-1))) V ∧
 (∀(x2:L_ref1_NatCmp_0) (V1:View),View.le V V1→I0 () x2 V1 →
 ((decide ((x2.t5:Int)≥0))=true →
 ((0:Int)≤x2.t5∧(x2.t5:Int)<(p0.len:Nat)∧Option.isSome p0.a=true) ∧
 ∃x3:Int,View.load V1 (Option.map (fun q=>Addr.add q (Int.toNat x2.t5*1)) p0.a)=some (.int .u32 x3) ∧
 ((0:Int)≤x2.t5∧(x2.t5:Int)<(p1.len:Nat)∧Option.isSome p1.a=true) ∧
 ∃x4:Int,View.load V1 (Option.map (fun q=>Addr.add q (Int.toNat x2.t5*1)) p1.a)=some (.int .u32 x4) ∧
 (((x3:Int) != x4)=true →
 ((0:Int)≤x2.t5∧(x2.t5:Int)<(p0.len:Nat)∧Option.isSome p0.a=true) ∧
 ∃x5:Int,View.load V1 (Option.map (fun q=>Addr.add q (Int.toNat x2.t5*1)) p0.a)=some (.int .u32 x5) ∧
 ((0:Int)≤x2.t5∧(x2.t5:Int)<(p1.len:Nat)∧Option.isSome p1.a=true) ∧
 ∃x6:Int,View.load V1 (Option.map (fun q=>Addr.add q (Int.toNat x2.t5*1)) p1.a)=some (.int .u32 x6) ∧
 ((decide ((x5:Int)<x6))=true →
 R (.int .i64 (-1)) V1) ∧
 ((decide ((x5:Int)<x6))=false →
 R (.int .i64 1) V1)) ∧
 (((x3:Int) != x4)=false →
 B0 () (L_ref1_NatCmp_0.mk (i64.wrap (x2.t5-1))) V1 x2 V1)) ∧
 ((decide ((x2.t5:Int)≥0))=false →
 R (.int .i64 0) V1)))
theorem ref1_NatCmp_v0 (p0:Sl) (p1:Sl) (V:View) (R:Value→View→Prop) (I0:Unit→L_ref1_NatCmp_0→View→Prop) (J0:Unit→L_ref1_NatCmp_0→View→Nat) {X:Prop} (e:ref1_NatCmp_sk p0 p1 V R I0 I0 (fun c w V x U=>I0 c w V∧J0 c w V<J0 c x U)=X) (h:X) :
 CallV Tryz.prog 346 #[p0.v,p1.v] V R :=
 calls_of_vc (Shp:=Shp) hmixed Tryz.func346 (c:=Tryz.f346.body.getD .skip) (args:=[p0.v,p1.v]) (by kernel_rfl)
 (.seq (.reg [A 4 2]) (.seq (.seq (.reg [A 6 2,A 7 0,A 8 2,A 9 0,A 10 0]) (.cond (.seq (.seq (.reg [A 11 2,A 12 0,A 13 2,A 14 0,A 15 0]) (.cond (.seq (.reg [A 4 2]) .leaf) .leaf)) (.seq (.reg [A 4 2]) .leaf)) .leaf)) (.seq (.seq (.reg [A 16 2,A 17 0,A 18 0,A 5 2]) (.block (.loop Unit L_ref1_NatCmp_0 (fun _=>()) (fun c x=>{ tm:=spT 41 0 [(0,.val (p0.v)),(1,.val (p1.v)),(5,.val (.int .i64 x.t5))],own:=spO 41 0 [] }) I0 J0 (.seq (.seq (.reg [A 19 2,A 20 0]) (.cond .leaf .leaf)) (.seq (.block (.seq (.draw [(0,A 23 2),(1,A 24 2),(2,A 25 7),(3,A 26 5),(4,A 27 2),(5,A 28 2),(6,A 29 7),(7,A 30 5),(8,A 31 0)] [0,0,3,7,0,0,48,112,255]) (.cond (.seq (.seq (.draw [(0,A 32 2),(1,A 33 2),(2,A 34 7),(3,A 35 5),(4,A 36 2),(5,A 37 2),(6,A 38 7),(7,A 39 5),(8,A 40 0)] [0,0,3,7,0,0,48,112,255]) (.cond (.seq (.reg [A 4 2]) .leaf) .leaf)) (.seq (.reg [A 4 2]) .leaf)) .leaf))) (.reg [A 21 2,A 22 0,A 5 2])))))) (.seq (.reg [A 4 2]) .leaf))))
 (Eq.mpr (by kernel_rfl) (show ref1_NatCmp_sk p0 p1 V R I0 (fun c w V=>∃x,ref1_NatCmp_f0 p0 p1 c w x∧I0 c x V) (fun c w V y U=>∃x,ref1_NatCmp_f0 p0 p1 c w x∧I0 c x V∧J0 c x V<J0 c y U)from by
 have h:=Eq.mpr e h; unfold ref1_NatCmp_sk at h ⊢; have Ee0:=fun c w V (h:I0 c w V)=>(⟨w,⟨⟨rfl,rfl,rfl,trivial⟩,trivial⟩,h⟩:∃x,ref1_NatCmp_f0 p0 p1 c w x∧I0 c x V); have Bb0:=fun c w V y U (h:I0 c w V∧J0 c w V<J0 c y U)=>(⟨w,⟨⟨rfl,rfl,rfl,trivial⟩,trivial⟩,h⟩:∃x,ref1_NatCmp_f0 p0 p1 c w x∧I0 c x V∧J0 c x V<J0 c y U); exact⟨fun h15=>⟨fun h1=>((h.1 h15).1 h1),fun h1=>((h.1 h15).2 h1)⟩,fun h15=>⟨(Ee0 _ _ _ (h.2 h15).1),fun x2 V1 h13 h14=>⟨fun h12=>⟨(((h.2 h15).2 x2 V1 h13 h14).1 h12).1,(match (((h.2 h15).2 x2 V1 h13 h14).1 h12).2 with|⟨x3,h11,h10⟩=>⟨x3,h11,⟨h10.1,(match h10.2 with|⟨x4,h9,h8⟩=>⟨x4,h9,⟨fun h7=>⟨(h8.1 h7).1,(match (h8.1 h7).2 with|⟨x5,h6,h5⟩=>⟨x5,h6,⟨h5.1,(match h5.2 with|⟨x6,h4,h3⟩=>⟨x6,h4,⟨fun h2=>(h3.1 h2),fun h2=>(h3.2 h2)⟩⟩)⟩⟩)⟩,fun h7=>(Bb0 _ _ _ _ _ (h8.2 h7))⟩⟩)⟩⟩)⟩,fun h12=>(((h.2 h15).2 x2 V1 h13 h14).2 h12)⟩⟩⟩))
theorem ref1_NatCmp_vc:type_of% (fun p0 p1 V R I0 J0=>ref1_NatCmp_v0 p0 p1 V R I0 J0 (ref1_NatCmp_sk.eq_1 ..)):=fun p0 p1 V R I0 J0=>ref1_NatCmp_v0 p0 p1 V R I0 J0 (ref1_NatCmp_sk.eq_1 ..)
structure L_ref1_NatAdd_0 where
 t0:Sl
 t1:Sl
structure L_ref1_NatAdd_1 where
 t6:Int
 t7:Int
 o19:List Value
structure C_ref1_NatAdd_1 where
 t0:Sl
 t1:Sl
 t5l:Nat
 t5c:Nat
def ref1_NatAdd_f0  (_c:Unit) (w x:L_ref1_NatAdd_0):Prop:=(E2 (.val (w.t0.v)) (.val (x.t0.v))∧E2 (.val (w.t1.v)) (.val (x.t1.v))∧True)∧(True)
def ref1_NatAdd_f1  (c:C_ref1_NatAdd_1) (w x:L_ref1_NatAdd_1):Prop:=(Q1 (.val (c.t0.v))∧Q1 (.val (c.t1.v))∧Q1 (.osl 19 0 c.t5l c.t5c)∧E2 (.val (.int .u64 w.t6)) (.val (.int .u64 x.t6))∧E2 (.val (.int .i64 w.t7)) (.val (.int .i64 x.t7))∧True)∧(O2 ⟨200,.dyn w.o19⟩ ⟨200,.dyn x.o19⟩∧True)
def ref1_NatAdd_sk (p0:Sl) (p1:Sl) (V:View) (R:Value→View→Prop) (I0:Unit→L_ref1_NatAdd_0→View→Prop) (I1:C_ref1_NatAdd_1→L_ref1_NatAdd_1→View→Prop) (E0:Unit→L_ref1_NatAdd_0→View→Prop) (E1:C_ref1_NatAdd_1→L_ref1_NatAdd_1→View→Prop) (B1:C_ref1_NatAdd_1→L_ref1_NatAdd_1→View→L_ref1_NatAdd_1→View→Prop):Prop :=
 (((decide (((p0.len:Int):Int)<(p1.len:Int)))=true →
 E0 () (L_ref1_NatAdd_0.mk p1 p0) V) ∧
 ((decide (((p0.len:Int):Int)<(p1.len:Int)))=false →
 E0 () (L_ref1_NatAdd_0.mk p0 p1) V)) ∧
 (∀(x1:L_ref1_NatAdd_0) (V1:View),View.le V V1→I0 () x1 V1 →
 ((0:Int)≤(i64.wrap ((x1.t0.len:Int)+1))∧((i64.wrap ((x1.t0.len:Int)+1)):Int)≤(i64.wrap ((x1.t0.len:Int)+1))∧(4:Int)*(i64.wrap ((x1.t0.len:Int)+1))≤281474976710656∧((i64.wrap ((x1.t0.len:Int)+1)):Int)≤9223372036854775807) ∧
 E1 (C_ref1_NatAdd_1.mk x1.t0 x1.t1 (Int.toNat (i64.wrap ((x1.t0.len:Int)+1))) (Int.toNat (i64.wrap ((x1.t0.len:Int)+1)))) (L_ref1_NatAdd_1.mk 0 0 ((List.replicate (Int.toNat (i64.wrap ((x1.t0.len:Int)+1))) [Value.int .u32 0]).flatten)) V1 ∧
 (∀(x5:L_ref1_NatAdd_1) (V2:View),View.le V1 V2→I1 (C_ref1_NatAdd_1.mk x1.t0 x1.t1 (Int.toNat (i64.wrap ((x1.t0.len:Int)+1))) (Int.toNat (i64.wrap ((x1.t0.len:Int)+1)))) x5 V2 →
 ((decide ((x5.t7:Int)<(x1.t0.len:Int)))=true →
 ((0:Int)≤x5.t7∧(x5.t7:Int)<(x1.t0.len:Nat)∧Option.isSome x1.t0.a=true) ∧
 ∃x6:Int,View.load V2 (Option.map (fun q=>Addr.add q (Int.toNat x5.t7*1)) x1.t0.a)=some (.int .u32 x6) ∧
 ((decide ((x5.t7:Int)<(x1.t1.len:Int)))=true →
 ((0:Int)≤x5.t7∧(x5.t7:Int)<(x1.t1.len:Nat)∧Option.isSome x1.t1.a=true) ∧
 ∃x7:Int,View.load V2 (Option.map (fun q=>Addr.add q (Int.toNat x5.t7*1)) x1.t1.a)=some (.int .u32 x7) ∧
 ((0:Int)≤x5.t7∧(x5.t7:Int)<(Int.toNat (i64.wrap ((x1.t0.len:Int)+1)):Nat)) ∧
 0+Int.toNat x5.t7*1+1≤List.length x5.o19 ∧
 B1 (C_ref1_NatAdd_1.mk x1.t0 x1.t1 (Int.toNat (i64.wrap ((x1.t0.len:Int)+1))) (Int.toNat (i64.wrap ((x1.t0.len:Int)+1)))) (L_ref1_NatAdd_1.mk (Int.fdiv (u64.wrap ((u64.wrap ((u64.wrap x6)+x5.t6))+(u64.wrap x7))) (2^(min (Int.toNat 32) (u64.bits)))) (i64.wrap (x5.t7+1)) (List.set x5.o19 (0+Int.toNat x5.t7*1) (.int .u32 (u32.wrap (u64.wrap ((u64.wrap ((u64.wrap x6)+x5.t6))+(u64.wrap x7))))))) V2 x5 V2) ∧
 ((decide ((x5.t7:Int)<(x1.t1.len:Int)))=false →
 ((0:Int)≤x5.t7∧(x5.t7:Int)<(Int.toNat (i64.wrap ((x1.t0.len:Int)+1)):Nat)) ∧
 0+Int.toNat x5.t7*1+1≤List.length x5.o19 ∧
 B1 (C_ref1_NatAdd_1.mk x1.t0 x1.t1 (Int.toNat (i64.wrap ((x1.t0.len:Int)+1))) (Int.toNat (i64.wrap ((x1.t0.len:Int)+1)))) (L_ref1_NatAdd_1.mk (Int.fdiv (u64.wrap ((u64.wrap x6)+x5.t6)) (2^(min (Int.toNat 32) (u64.bits)))) (i64.wrap (x5.t7+1)) (List.set x5.o19 (0+Int.toNat x5.t7*1) (.int .u32 (u32.wrap (u64.wrap ((u64.wrap x6)+x5.t6)))))) V2 x5 V2)) ∧
 ((decide ((x5.t7:Int)<(x1.t0.len:Int)))=false →
 ((0:Int)≤(x1.t0.len:Int)∧((x1.t0.len:Int):Int)<(Int.toNat (i64.wrap ((x1.t0.len:Int)+1)):Nat)) ∧
 0+Int.toNat (x1.t0.len:Int)*1+1≤List.length x5.o19 ∧
 ∀(b1:Nat) (V3:View),View.le V2 V3→V3 b1=some (List.toArray (List.set x5.o19 (0+Int.toNat (x1.t0.len:Int)*1) (.int .u32 (u32.wrap x5.t6)))) →
 CallV Tryz.prog 348 #[(Sl.mk (some (Addr.mk b1 0 none)) (Int.toNat (i64.wrap ((x1.t0.len:Int)+1))) (Int.toNat (i64.wrap ((x1.t0.len:Int)+1)))).v] V3 fun v V4=>∃r1:Sl,v=r1.v ∧
 R (r1.v) V4)))
theorem ref1_NatAdd_v0 (p0:Sl) (p1:Sl) (V:View) (R:Value→View→Prop) (I0:Unit→L_ref1_NatAdd_0→View→Prop) (I1:C_ref1_NatAdd_1→L_ref1_NatAdd_1→View→Prop) (J1:C_ref1_NatAdd_1→L_ref1_NatAdd_1→View→Nat) {X:Prop} (e:ref1_NatAdd_sk p0 p1 V R I0 I1 I0 I1 (fun c w V x U=>I1 c w V∧J1 c w V<J1 c x U)=X) (h:X) :
 CallV Tryz.prog 345 #[p0.v,p1.v] V R :=
 calls_of_vc (Shp:=Shp) hmixed Tryz.func345 (c:=Tryz.f345.body.getD .skip) (args:=[p0.v,p1.v]) (by kernel_rfl)
 (.seq (.reg [A 4 2]) (.cut Unit L_ref1_NatAdd_0 (fun _=>()) (fun c x=>{ tm:=spT 59 0 [(0,.val (x.t0.v)),(1,.val (x.t1.v))],own:=spO 59 0 [] }) I0 (.seq (.reg [A 9 2,A 10 0,A 11 2,A 12 0,A 13 0]) (.cond (.reg [A 14 2,A 15 2,A 0 2,A 1 2]) .leaf)) (.seq (.reg [A 16 2,A 17 0,A 18 0,A 19 3,A 5 2]) (.seq (.reg [A 6 2]) (.seq (.seq (.reg [A 7 2]) (.block (.loop C_ref1_NatAdd_1 L_ref1_NatAdd_1 (fun σ=>C_ref1_NatAdd_1.mk (Sl.mk (gSlA (gTm σ 0)) (gSlL (gTm σ 0)) (gSlC (gTm σ 0))) (Sl.mk (gSlA (gTm σ 1)) (gSlL (gTm σ 1)) (gSlC (gTm σ 1))) (gLen (gTm σ 5)) (gCap (gTm σ 5))) (fun c x=>{ tm:=spT 59 0 [(0,.val (c.t0.v)),(1,.val (c.t1.v)),(5,.osl 19 0 c.t5l c.t5c),(6,.val (.int .u64 x.t6)),(7,.val (.int .i64 x.t7))],own:=spO 59 0 [(19,⟨200,.dyn x.o19⟩)] }) I1 J1 (.seq (.seq (.reg [A 20 2,A 21 2,A 22 0,A 23 0]) (.cond .leaf .leaf)) (.seq (.block (.seq (.reg [A 26 2,A 27 2,A 28 7,A 29 5,A 30 0,A 31 2,A 32 0,A 8 2]) (.seq (.seq (.reg [A 33 2,A 34 2,A 35 0,A 36 0]) (.cond (.reg [A 37 2,A 38 2,A 39 2,A 40 7,A 41 5,A 42 0,A 43 0,A 8 2]) .leaf)) (.seq (.reg [A 44 2,A 45 2,A 46 2,A 47 0,A 48 7,A 19 6]) (.reg [A 49 2,A 50 0,A 6 2]))))) (.reg [A 24 2,A 25 0,A 7 2])))))) (.seq (.reg [A 51 2,A 52 2,A 53 0,A 54 2,A 55 0,A 56 7,A 19 6]) (.seq (.pub 19 (.reg [A 57 2,A 58 10,A 4 2])) .leaf)))))))
 (Eq.mpr (by kernel_rfl) (show ref1_NatAdd_sk p0 p1 V R I0 I1 (fun c w V=>∃x,ref1_NatAdd_f0  c w x∧I0 c x V) (fun c w V=>∃x,ref1_NatAdd_f1  c w x∧I1 c x V) (fun c w V y U=>∃x,ref1_NatAdd_f1  c w x∧I1 c x V∧J1 c x V<J1 c y U)from by
 have h:=Eq.mpr e h; unfold ref1_NatAdd_sk at h ⊢; have Ee0:=fun c w V (h:I0 c w V)=>(⟨w,⟨⟨rfl,rfl,trivial⟩,trivial⟩,h⟩:∃x,ref1_NatAdd_f0  c w x∧I0 c x V); have Ee1:=fun c w V (h:I1 c w V)=>(⟨w,⟨⟨rfl,rfl,rfl,rfl,rfl,trivial⟩,⟨rfl,trivial⟩⟩,h⟩:∃x,ref1_NatAdd_f1  c w x∧I1 c x V); have Bb1:=fun c w V y U (h:I1 c w V∧J1 c w V<J1 c y U)=>(⟨w,⟨⟨rfl,rfl,rfl,rfl,rfl,trivial⟩,⟨rfl,trivial⟩⟩,h⟩:∃x,ref1_NatAdd_f1  c w x∧I1 c x V∧J1 c x V<J1 c y U); exact⟨⟨fun h1=>(Ee0 _ _ _ (h.1.1 h1)),fun h1=>(Ee0 _ _ _ (h.1.2 h1))⟩,fun x1 V1 h14 h15=>⟨(h.2 x1 V1 h14 h15).1,⟨(Ee1 _ _ _ (h.2 x1 V1 h14 h15).2.1),fun x5 V2 h12 h13=>⟨fun h11=>⟨(((h.2 x1 V1 h14 h15).2.2 x5 V2 h12 h13).1 h11).1,(match (((h.2 x1 V1 h14 h15).2.2 x5 V2 h12 h13).1 h11).2 with|⟨x6,h6,h5⟩=>⟨x6,h6,⟨fun h4=>⟨(h5.1 h4).1,(match (h5.1 h4).2 with|⟨x7,h3,h2⟩=>⟨x7,h3,⟨h2.1,⟨h2.2.1,(Bb1 _ _ _ _ _ h2.2.2)⟩⟩⟩)⟩,fun h4=>⟨(h5.2 h4).1,⟨(h5.2 h4).2.1,(Bb1 _ _ _ _ _ (h5.2 h4).2.2)⟩⟩⟩⟩)⟩,fun h11=>⟨(((h.2 x1 V1 h14 h15).2.2 x5 V2 h12 h13).2 h11).1,⟨(((h.2 x1 V1 h14 h15).2.2 x5 V2 h12 h13).2 h11).2.1,(fun b1 V3 h9 h10=>(CallV.mono ((((h.2 x1 V1 h14 h15).2.2 x5 V2 h12 h13).2 h11).2.2 b1 V3 h9 h10) (fun _ _ _ ⟨r1,h8,h7⟩=>⟨r1,h8,h7⟩)))⟩⟩⟩⟩⟩⟩))
theorem ref1_NatAdd_vc:type_of% (fun p0 p1 V R I0 I1 J1=>ref1_NatAdd_v0 p0 p1 V R I0 I1 J1 (ref1_NatAdd_sk.eq_1 ..)):=fun p0 p1 V R I0 I1 J1=>ref1_NatAdd_v0 p0 p1 V R I0 I1 J1 (ref1_NatAdd_sk.eq_1 ..)
structure L_ref1_NatSub_0 where
 t6:Int
 t7:Int
 o11:List Value
def ref1_NatSub_f0 (p0:Sl) (p1:Sl) (_c:Unit) (w x:L_ref1_NatSub_0):Prop:=(Q1 (.val (p0.v))∧Q1 (.val (p1.v))∧Q1 (.osl 11 0 (Int.toNat (p0.len:Int)) (Int.toNat (p0.len:Int)))∧E2 (.val (.int .u64 w.t6)) (.val (.int .u64 x.t6))∧E2 (.val (.int .i64 w.t7)) (.val (.int .i64 x.t7))∧True)∧(O2 ⟨200,.dyn w.o11⟩ ⟨200,.dyn x.o11⟩∧True)
def ref1_NatSub_sk (p0:Sl) (p1:Sl) (V:View) (R:Value→View→Prop) (I0:Unit→L_ref1_NatSub_0→View→Prop) (E0:Unit→L_ref1_NatSub_0→View→Prop) (B0:Unit→L_ref1_NatSub_0→View→L_ref1_NatSub_0→View→Prop):Prop :=
 ((0:Int)≤(p0.len:Int)∧((p0.len:Int):Int)≤(p0.len:Int)∧(4:Int)*(p0.len:Int)≤281474976710656∧((p0.len:Int):Int)≤9223372036854775807) ∧
 E0 () (L_ref1_NatSub_0.mk 0 0 ((List.replicate (Int.toNat (p0.len:Int)) [Value.int .u32 0]).flatten)) V ∧
 (∀(x2:L_ref1_NatSub_0) (V1:View),View.le V V1→I0 () x2 V1 →
 ((decide ((x2.t7:Int)<(p0.len:Int)))=true →
 ((0:Int)≤x2.t7∧(x2.t7:Int)<(p0.len:Nat)∧Option.isSome p0.a=true) ∧
 ∃x3:Int,View.load V1 (Option.map (fun q=>Addr.add q (Int.toNat x2.t7*1)) p0.a)=some (.int .u32 x3) ∧
 ((decide ((x2.t7:Int)<(p1.len:Int)))=true →
 ((0:Int)≤x2.t7∧(x2.t7:Int)<(p1.len:Nat)∧Option.isSome p1.a=true) ∧
 ∃x4:Int,View.load V1 (Option.map (fun q=>Addr.add q (Int.toNat x2.t7*1)) p1.a)=some (.int .u32 x4) ∧
 ((0:Int)≤x2.t7∧(x2.t7:Int)<(Int.toNat (p0.len:Int):Nat)) ∧
 0+Int.toNat x2.t7*1+1≤List.length x2.o11 ∧
 B0 () (L_ref1_NatSub_0.mk (Int.fdiv (u64.wrap ((u64.wrap ((u64.wrap x3)-x2.t6))-(u64.wrap x4))) (2^(min (Int.toNat 63) (u64.bits)))) (i64.wrap (x2.t7+1)) (List.set x2.o11 (0+Int.toNat x2.t7*1) (.int .u32 (u32.wrap (u64.wrap ((u64.wrap ((u64.wrap x3)-x2.t6))-(u64.wrap x4))))))) V1 x2 V1) ∧
 ((decide ((x2.t7:Int)<(p1.len:Int)))=false →
 ((0:Int)≤x2.t7∧(x2.t7:Int)<(Int.toNat (p0.len:Int):Nat)) ∧
 0+Int.toNat x2.t7*1+1≤List.length x2.o11 ∧
 B0 () (L_ref1_NatSub_0.mk (Int.fdiv (u64.wrap ((u64.wrap x3)-x2.t6)) (2^(min (Int.toNat 63) (u64.bits)))) (i64.wrap (x2.t7+1)) (List.set x2.o11 (0+Int.toNat x2.t7*1) (.int .u32 (u32.wrap (u64.wrap ((u64.wrap x3)-x2.t6)))))) V1 x2 V1)) ∧
 ((decide ((x2.t7:Int)<(p0.len:Int)))=false →
 ∀(b1:Nat) (V2:View),View.le V1 V2→V2 b1=some (List.toArray x2.o11) →
 CallV Tryz.prog 348 #[(Sl.mk (some (Addr.mk b1 0 none)) (Int.toNat (p0.len:Int)) (Int.toNat (p0.len:Int))).v] V2 fun v V3=>∃r1:Sl,v=r1.v ∧
 R (r1.v) V3))
theorem ref1_NatSub_v0 (p0:Sl) (p1:Sl) (V:View) (R:Value→View→Prop) (I0:Unit→L_ref1_NatSub_0→View→Prop) (J0:Unit→L_ref1_NatSub_0→View→Nat) {X:Prop} (e:ref1_NatSub_sk p0 p1 V R I0 I0 (fun c w V x U=>I0 c w V∧J0 c w V<J0 c x U)=X) (h:X) :
 CallV Tryz.prog 347 #[p0.v,p1.v] V R :=
 calls_of_vc (Shp:=Shp) hmixed Tryz.func347 (c:=Tryz.f347.body.getD .skip) (args:=[p0.v,p1.v]) (by kernel_rfl)
 (.seq (.reg [A 4 2]) (.seq (.reg [A 9 2,A 10 0,A 11 3,A 5 2]) (.seq (.reg [A 6 2]) (.seq (.seq (.reg [A 7 2]) (.block (.loop Unit L_ref1_NatSub_0 (fun _=>()) (fun c x=>{ tm:=spT 45 0 [(0,.val (p0.v)),(1,.val (p1.v)),(5,.osl 11 0 (Int.toNat (p0.len:Int)) (Int.toNat (p0.len:Int))),(6,.val (.int .u64 x.t6)),(7,.val (.int .i64 x.t7))],own:=spO 45 0 [(11,⟨200,.dyn x.o11⟩)] }) I0 J0 (.seq (.seq (.reg [A 12 2,A 13 2,A 14 0,A 15 0]) (.cond .leaf .leaf)) (.seq (.block (.seq (.reg [A 18 2,A 19 2,A 20 7,A 21 5,A 22 0,A 23 2,A 24 0,A 8 2]) (.seq (.seq (.reg [A 25 2,A 26 2,A 27 0,A 28 0]) (.cond (.reg [A 29 2,A 30 2,A 31 2,A 32 7,A 33 5,A 34 0,A 35 0,A 8 2]) .leaf)) (.seq (.reg [A 36 2,A 37 2,A 38 2,A 39 0,A 40 7,A 11 6]) (.reg [A 41 2,A 42 0,A 6 2]))))) (.reg [A 16 2,A 17 0,A 7 2])))))) (.seq (.pub 11 (.reg [A 43 2,A 44 10,A 4 2])) .leaf)))))
 (Eq.mpr (by kernel_rfl) (show ref1_NatSub_sk p0 p1 V R I0 (fun c w V=>∃x,ref1_NatSub_f0 p0 p1 c w x∧I0 c x V) (fun c w V y U=>∃x,ref1_NatSub_f0 p0 p1 c w x∧I0 c x V∧J0 c x V<J0 c y U)from by
 have h:=Eq.mpr e h; unfold ref1_NatSub_sk at h ⊢; have Ee0:=fun c w V (h:I0 c w V)=>(⟨w,⟨⟨rfl,rfl,rfl,rfl,rfl,trivial⟩,⟨rfl,trivial⟩⟩,h⟩:∃x,ref1_NatSub_f0 p0 p1 c w x∧I0 c x V); have Bb0:=fun c w V y U (h:I0 c w V∧J0 c w V<J0 c y U)=>(⟨w,⟨⟨rfl,rfl,rfl,rfl,rfl,trivial⟩,⟨rfl,trivial⟩⟩,h⟩:∃x,ref1_NatSub_f0 p0 p1 c w x∧I0 c x V∧J0 c x V<J0 c y U); exact⟨h.1,⟨(Ee0 _ _ _ h.2.1),fun x2 V1 h11 h12=>⟨fun h10=>⟨((h.2.2 x2 V1 h11 h12).1 h10).1,(match ((h.2.2 x2 V1 h11 h12).1 h10).2 with|⟨x3,h5,h4⟩=>⟨x3,h5,⟨fun h3=>⟨(h4.1 h3).1,(match (h4.1 h3).2 with|⟨x4,h2,h1⟩=>⟨x4,h2,⟨h1.1,⟨h1.2.1,(Bb0 _ _ _ _ _ h1.2.2)⟩⟩⟩)⟩,fun h3=>⟨(h4.2 h3).1,⟨(h4.2 h3).2.1,(Bb0 _ _ _ _ _ (h4.2 h3).2.2)⟩⟩⟩⟩)⟩,fun h10=>(fun b1 V2 h8 h9=>(CallV.mono (((h.2.2 x2 V1 h11 h12).2 h10) b1 V2 h8 h9) (fun _ _ _ ⟨r1,h7,h6⟩=>⟨r1,h7,h6⟩)))⟩⟩⟩))
theorem ref1_NatSub_vc:type_of% (fun p0 p1 V R I0 J0=>ref1_NatSub_v0 p0 p1 V R I0 J0 (ref1_NatSub_sk.eq_1 ..)):=fun p0 p1 V R I0 J0=>ref1_NatSub_v0 p0 p1 V R I0 J0 (ref1_NatSub_sk.eq_1 ..)
structure L_ref1_NatMul_0 where
 t6:Int
 o15:List Value
structure L_ref1_NatMul_1 where
 t7:Int
 t8:Int
 o15:List Value
structure C_ref1_NatMul_1 where
 t6:Int
def ref1_NatMul_f0 (p0:Sl) (p1:Sl) (_c:Unit) (w x:L_ref1_NatMul_0):Prop:=(Q1 (.val (p0.v))∧Q1 (.val (p1.v))∧Q1 (.osl 15 0 (Int.toNat (i64.wrap ((p0.len:Int)+(p1.len:Int)))) (Int.toNat (i64.wrap ((p0.len:Int)+(p1.len:Int)))))∧E2 (.val (.int .i64 w.t6)) (.val (.int .i64 x.t6))∧True)∧(O2 ⟨200,.dyn w.o15⟩ ⟨200,.dyn x.o15⟩∧True)
def ref1_NatMul_f1 (p0:Sl) (p1:Sl) (c:C_ref1_NatMul_1) (w x:L_ref1_NatMul_1):Prop:=(Q1 (.val (p0.v))∧Q1 (.val (p1.v))∧Q1 (.osl 15 0 (Int.toNat (i64.wrap ((p0.len:Int)+(p1.len:Int)))) (Int.toNat (i64.wrap ((p0.len:Int)+(p1.len:Int)))))∧Q1 (.val (.int .i64 c.t6))∧E2 (.val (.int .u64 w.t7)) (.val (.int .u64 x.t7))∧E2 (.val (.int .i64 w.t8)) (.val (.int .i64 x.t8))∧True)∧(O2 ⟨200,.dyn w.o15⟩ ⟨200,.dyn x.o15⟩∧True)
def ref1_NatMul_sk (p0:Sl) (p1:Sl) (V:View) (R:Value→View→Prop) (I0:Unit→L_ref1_NatMul_0→View→Prop) (I1:C_ref1_NatMul_1→L_ref1_NatMul_1→View→Prop) (E0:Unit→L_ref1_NatMul_0→View→Prop) (B0:Unit→L_ref1_NatMul_0→View→L_ref1_NatMul_0→View→Prop) (E1:C_ref1_NatMul_1→L_ref1_NatMul_1→View→Prop) (B1:C_ref1_NatMul_1→L_ref1_NatMul_1→View→L_ref1_NatMul_1→View→Prop):Prop :=
 ((0:Int)≤(i64.wrap ((p0.len:Int)+(p1.len:Int)))∧((i64.wrap ((p0.len:Int)+(p1.len:Int))):Int)≤(i64.wrap ((p0.len:Int)+(p1.len:Int)))∧(4:Int)*(i64.wrap ((p0.len:Int)+(p1.len:Int)))≤281474976710656∧((i64.wrap ((p0.len:Int)+(p1.len:Int))):Int)≤9223372036854775807) ∧
 E0 () (L_ref1_NatMul_0.mk 0 ((List.replicate (Int.toNat (i64.wrap ((p0.len:Int)+(p1.len:Int)))) [Value.int .u32 0]).flatten)) V ∧
 (∀(x2:L_ref1_NatMul_0) (V1:View),View.le V V1→I0 () x2 V1 →
 ((decide ((x2.t6:Int)<(p0.len:Int)))=true →
 E1 (C_ref1_NatMul_1.mk x2.t6) (L_ref1_NatMul_1.mk 0 0 x2.o15) V1 ∧
 (∀(x4:L_ref1_NatMul_1) (V2:View),View.le V1 V2→I1 (C_ref1_NatMul_1.mk x2.t6) x4 V2 →
 ((decide ((x4.t8:Int)<(p1.len:Int)))=true →
 ((0:Int)≤x2.t6∧(x2.t6:Int)<(p0.len:Nat)∧Option.isSome p0.a=true) ∧
 ∃x5:Int,View.load V2 (Option.map (fun q=>Addr.add q (Int.toNat x2.t6*1)) p0.a)=some (.int .u32 x5) ∧
 ((0:Int)≤x4.t8∧(x4.t8:Int)<(p1.len:Nat)∧Option.isSome p1.a=true) ∧
 ∃x6:Int,View.load V2 (Option.map (fun q=>Addr.add q (Int.toNat x4.t8*1)) p1.a)=some (.int .u32 x6) ∧
 ((0:Int)≤(i64.wrap (x2.t6+x4.t8))∧((i64.wrap (x2.t6+x4.t8)):Int)<(Int.toNat (i64.wrap ((p0.len:Int)+(p1.len:Int))):Nat)) ∧
 ∃x7:Int,x4.o15[0+Int.toNat (i64.wrap (x2.t6+x4.t8))*1]?=some (.int .u32 x7) ∧
 ((0:Int)≤(i64.wrap (x2.t6+x4.t8))∧((i64.wrap (x2.t6+x4.t8)):Int)<(Int.toNat (i64.wrap ((p0.len:Int)+(p1.len:Int))):Nat)) ∧
 0+Int.toNat (i64.wrap (x2.t6+x4.t8))*1+1≤List.length x4.o15 ∧
 B1 (C_ref1_NatMul_1.mk x2.t6) (L_ref1_NatMul_1.mk (Int.fdiv (u64.wrap ((u64.wrap ((u64.wrap ((u64.wrap x5)*(u64.wrap x6)))+(u64.wrap x7)))+x4.t7)) (2^(min (Int.toNat 32) (u64.bits)))) (i64.wrap (x4.t8+1)) (List.set x4.o15 (0+Int.toNat (i64.wrap (x2.t6+x4.t8))*1) (.int .u32 (u32.wrap (u64.wrap ((u64.wrap ((u64.wrap ((u64.wrap x5)*(u64.wrap x6)))+(u64.wrap x7)))+x4.t7)))))) V2 x4 V2) ∧
 ((decide ((x4.t8:Int)<(p1.len:Int)))=false →
 ((0:Int)≤(i64.wrap (x2.t6+(p1.len:Int)))∧((i64.wrap (x2.t6+(p1.len:Int))):Int)<(Int.toNat (i64.wrap ((p0.len:Int)+(p1.len:Int))):Nat)) ∧
 0+Int.toNat (i64.wrap (x2.t6+(p1.len:Int)))*1+1≤List.length x4.o15 ∧
 B0 () (L_ref1_NatMul_0.mk (i64.wrap (x2.t6+1)) (List.set x4.o15 (0+Int.toNat (i64.wrap (x2.t6+(p1.len:Int)))*1) (.int .u32 (u32.wrap x4.t7)))) V2 x2 V1))) ∧
 ((decide ((x2.t6:Int)<(p0.len:Int)))=false →
 ∀(b1:Nat) (V3:View),View.le V1 V3→V3 b1=some (List.toArray x2.o15) →
 CallV Tryz.prog 348 #[(Sl.mk (some (Addr.mk b1 0 none)) (Int.toNat (i64.wrap ((p0.len:Int)+(p1.len:Int)))) (Int.toNat (i64.wrap ((p0.len:Int)+(p1.len:Int))))).v] V3 fun v V4=>∃r1:Sl,v=r1.v ∧
 R (r1.v) V4))
theorem ref1_NatMul_v0 (p0:Sl) (p1:Sl) (V:View) (R:Value→View→Prop) (I0:Unit→L_ref1_NatMul_0→View→Prop) (J0:Unit→L_ref1_NatMul_0→View→Nat) (I1:C_ref1_NatMul_1→L_ref1_NatMul_1→View→Prop) (J1:C_ref1_NatMul_1→L_ref1_NatMul_1→View→Nat) {X:Prop} (e:ref1_NatMul_sk p0 p1 V R I0 I1 I0 (fun c w V x U=>I0 c w V∧J0 c w V<J0 c x U) I1 (fun c w V x U=>I1 c w V∧J1 c w V<J1 c x U)=X) (h:X) :
 CallV Tryz.prog 268 #[p0.v,p1.v] V R :=
 calls_of_vc (Shp:=Shp) hmixed Tryz.func268 (c:=Tryz.f268.body.getD .skip) (args:=[p0.v,p1.v]) (by kernel_rfl)
 (.seq (.reg [A 4 2]) (.seq (.reg [A 10 2,A 11 0,A 12 2,A 13 0,A 14 0,A 15 3,A 5 2]) (.seq (.seq (.reg [A 6 2]) (.block (.loop Unit L_ref1_NatMul_0 (fun _=>()) (fun c x=>{ tm:=spT 68 0 [(0,.val (p0.v)),(1,.val (p1.v)),(5,.osl 15 0 (Int.toNat (i64.wrap ((p0.len:Int)+(p1.len:Int)))) (Int.toNat (i64.wrap ((p0.len:Int)+(p1.len:Int))))),(6,.val (.int .i64 x.t6))],own:=spO 68 0 [(15,⟨200,.dyn x.o15⟩)] }) I0 J0 (.seq (.seq (.reg [A 16 2,A 17 2,A 18 0,A 19 0]) (.cond .leaf .leaf)) (.seq (.block (.seq (.reg [A 7 2]) (.seq (.seq (.reg [A 8 2]) (.block (.loop C_ref1_NatMul_1 L_ref1_NatMul_1 (fun σ=>C_ref1_NatMul_1.mk (gInt (gTm σ 6))) (fun c x=>{ tm:=spT 68 0 [(0,.val (p0.v)),(1,.val (p1.v)),(5,.osl 15 0 (Int.toNat (i64.wrap ((p0.len:Int)+(p1.len:Int)))) (Int.toNat (i64.wrap ((p0.len:Int)+(p1.len:Int))))),(6,.val (.int .i64 c.t6)),(7,.val (.int .u64 x.t7)),(8,.val (.int .i64 x.t8))],own:=spO 68 0 [(15,⟨200,.dyn x.o15⟩)] }) I1 J1 (.seq (.seq (.reg [A 22 2,A 23 2,A 24 0,A 25 0]) (.cond .leaf .leaf)) (.seq (.block (.seq (.draw [(0,A 28 2),(1,A 29 2),(2,A 30 7),(3,A 31 5),(4,A 32 0),(5,A 33 2),(6,A 34 2),(7,A 35 7),(8,A 36 5),(9,A 37 0),(10,A 38 0),(11,A 39 2),(12,A 40 2),(13,A 41 2),(14,A 42 0),(15,A 43 7),(16,A 15 4),(17,A 45 0),(18,A 46 0),(19,A 47 2),(20,A 48 0),(21,A 9 2)] [0,0,3,7,15,0,0,96,224,480,1023,0,0,0,12288,30720,63488,129024,262143,0,1048575,2097151]) (.seq (.reg [A 49 2,A 50 2,A 51 2,A 52 0,A 53 2,A 54 0,A 55 7,A 15 6]) (.reg [A 56 2,A 57 0,A 7 2])))) (.reg [A 26 2,A 27 0,A 8 2])))))) (.reg [A 58 2,A 59 2,A 60 2,A 61 0,A 62 0,A 63 2,A 64 0,A 65 7,A 15 6])))) (.reg [A 20 2,A 21 0,A 6 2])))))) (.seq (.pub 15 (.reg [A 66 2,A 67 10,A 4 2])) .leaf))))
 (Eq.mpr (by kernel_rfl) (show ref1_NatMul_sk p0 p1 V R I0 I1 (fun c w V=>∃x,ref1_NatMul_f0 p0 p1 c w x∧I0 c x V) (fun c w V y U=>∃x,ref1_NatMul_f0 p0 p1 c w x∧I0 c x V∧J0 c x V<J0 c y U) (fun c w V=>∃x,ref1_NatMul_f1 p0 p1 c w x∧I1 c x V) (fun c w V y U=>∃x,ref1_NatMul_f1 p0 p1 c w x∧I1 c x V∧J1 c x V<J1 c y U)from by
 have h:=Eq.mpr e h; unfold ref1_NatMul_sk at h ⊢; have Ee0:=fun c w V (h:I0 c w V)=>(⟨w,⟨⟨rfl,rfl,rfl,rfl,trivial⟩,⟨rfl,trivial⟩⟩,h⟩:∃x,ref1_NatMul_f0 p0 p1 c w x∧I0 c x V); have Bb0:=fun c w V y U (h:I0 c w V∧J0 c w V<J0 c y U)=>(⟨w,⟨⟨rfl,rfl,rfl,rfl,trivial⟩,⟨rfl,trivial⟩⟩,h⟩:∃x,ref1_NatMul_f0 p0 p1 c w x∧I0 c x V∧J0 c x V<J0 c y U); have Ee1:=fun c w V (h:I1 c w V)=>(⟨w,⟨⟨rfl,rfl,rfl,rfl,rfl,rfl,trivial⟩,⟨rfl,trivial⟩⟩,h⟩:∃x,ref1_NatMul_f1 p0 p1 c w x∧I1 c x V); have Bb1:=fun c w V y U (h:I1 c w V∧J1 c w V<J1 c y U)=>(⟨w,⟨⟨rfl,rfl,rfl,rfl,rfl,rfl,trivial⟩,⟨rfl,trivial⟩⟩,h⟩:∃x,ref1_NatMul_f1 p0 p1 c w x∧I1 c x V∧J1 c x V<J1 c y U); exact⟨h.1,⟨(Ee0 _ _ _ h.2.1),fun x2 V1 h15 h16=>⟨fun h14=>⟨(Ee1 _ _ _ ((h.2.2 x2 V1 h15 h16).1 h14).1),fun x4 V2 h8 h9=>⟨fun h7=>⟨((((h.2.2 x2 V1 h15 h16).1 h14).2 x4 V2 h8 h9).1 h7).1,(match ((((h.2.2 x2 V1 h15 h16).1 h14).2 x4 V2 h8 h9).1 h7).2 with|⟨x5,h6,h5⟩=>⟨x5,h6,⟨h5.1,(match h5.2 with|⟨x6,h4,h3⟩=>⟨x6,h4,⟨h3.1,(match h3.2 with|⟨x7,h2,h1⟩=>⟨x7,h2,⟨h1.1,⟨h1.2.1,(Bb1 _ _ _ _ _ h1.2.2)⟩⟩⟩)⟩⟩)⟩⟩)⟩,fun h7=>⟨((((h.2.2 x2 V1 h15 h16).1 h14).2 x4 V2 h8 h9).2 h7).1,⟨((((h.2.2 x2 V1 h15 h16).1 h14).2 x4 V2 h8 h9).2 h7).2.1,(Bb0 _ _ _ _ _ ((((h.2.2 x2 V1 h15 h16).1 h14).2 x4 V2 h8 h9).2 h7).2.2)⟩⟩⟩⟩,fun h14=>(fun b1 V3 h12 h13=>(CallV.mono (((h.2.2 x2 V1 h15 h16).2 h14) b1 V3 h12 h13) (fun _ _ _ ⟨r1,h11,h10⟩=>⟨r1,h11,h10⟩)))⟩⟩⟩))
theorem ref1_NatMul_vc:type_of% (fun p0 p1 V R I0 J0 I1 J1=>ref1_NatMul_v0 p0 p1 V R I0 J0 I1 J1 (ref1_NatMul_sk.eq_1 ..)):=fun p0 p1 V R I0 J0 I1 J1=>ref1_NatMul_v0 p0 p1 V R I0 J0 I1 J1 (ref1_NatMul_sk.eq_1 ..)
end Go.Proofs.YtfdaofhjkdabbaaGreat
