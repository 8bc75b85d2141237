/- Part of the proof; it has the parts FR2. -/
import Derived.Test.YtfdaofhjkdabbaaGreatFR3
set_option maxRecDepth 100000
set_option maxHeartbeats 4000000
namespace Go.Proofs.YtfdaofhjkdabbaaGreat
open Go Go.Vc Go.Proofs
open Go.IntKind (i8 i16 i32 i64 u8 u16 u32 u64)
structure L_ref1_natDigit_0 where
 t7:Int
 t8:Int
 o12:List Value
def ref1_natDigit_f0 (p0:Sl) (p1:Int) (_c:Unit) (w x:L_ref1_natDigit_0):Prop:=(Q1 (.val (p0.v))∧Q1 (.val (.int .u32 p1))∧Q1 (.osl 12 0 (Int.toNat (p0.len:Int)) (Int.toNat (p0.len:Int)))∧E2 (.val (.int .u64 w.t7)) (.val (.int .u64 x.t7))∧E2 (.val (.int .i64 w.t8)) (.val (.int .i64 x.t8))∧True)∧(O2 ⟨200,.dyn w.o12⟩ ⟨200,.dyn x.o12⟩∧True)
def ref1_natDigit_sk (p0:Sl) (p1:Int) (V:View) (R:Value→View→Prop) (I0:Unit→L_ref1_natDigit_0→View→Prop) (E0:Unit→L_ref1_natDigit_0→View→Prop) (B0:Unit→L_ref1_natDigit_0→View→L_ref1_natDigit_0→View→Prop):Prop :=
 ((0:Int)≤(p0.len:Int)∧((p0.len:Int):Int)≤(p0.len:Int)∧(4:Int)*(p0.len:Int)≤281474976710656∧((p0.len:Int):Int)≤9223372036854775807) ∧
 E0 () (L_ref1_natDigit_0.mk 0 (i64.wrap ((p0.len:Int)-1)) ((List.replicate (Int.toNat (p0.len:Int)) [Value.int .u32 0]).flatten)) V ∧
 (∀(x2:L_ref1_natDigit_0) (V1:View),View.le V V1→I0 () x2 V1 →
 ((decide ((x2.t8:Int)≥0))=true →
 ((0:Int)≤x2.t8∧(x2.t8:Int)<(p0.len:Nat)∧Option.isSome p0.a=true) ∧
 ∃x3:Int,View.load V1 (Option.map (fun q=>Addr.add q (Int.toNat x2.t8*1)) p0.a)=some (.int .u32 x3) ∧
 ((u64.wrap p1):Int)≠0 ∧
 ((0:Int)≤x2.t8∧(x2.t8:Int)<(Int.toNat (p0.len:Int):Nat)) ∧
 0+Int.toNat x2.t8*1+1≤List.length x2.o12 ∧
 ((u64.wrap p1):Int)≠0 ∧
 B0 () (L_ref1_natDigit_0.mk (Int.tmod (u64.wrap (BitVec.toNat ((BitVec.ofInt u64.bits (u64.wrap (x2.t7*2^(min (Int.toNat 32) (u64.bits))))) ||| (BitVec.ofInt u64.bits (u64.wrap x3))))) (u64.wrap p1)) (i64.wrap (x2.t8-1)) (List.set x2.o12 (0+Int.toNat x2.t8*1) (.int .u32 (u32.wrap (u64.wrap (Int.tdiv (u64.wrap (BitVec.toNat ((BitVec.ofInt u64.bits (u64.wrap (x2.t7*2^(min (Int.toNat 32) (u64.bits))))) ||| (BitVec.ofInt u64.bits (u64.wrap x3))))) (u64.wrap p1))))))) V1 x2 V1) ∧
 ((decide ((x2.t8:Int)≥0))=false →
 ∀(b1:Nat) (V2:View),View.le V1 V2→V2 b1=some (List.toArray x2.o12) →
 CallV Tryz.prog 348 #[(Sl.mk (some (Addr.mk b1 0 none)) (Int.toNat (p0.len:Int)) (Int.toNat (p0.len:Int))).v] V2 fun v V3=>∃r1:Sl,v=r1.v ∧
 R (.tuple #[r1.v,.int .u32 (u32.wrap x2.t7)]) V3))
theorem ref1_natDigit_v0 (p0:Sl) (p1:Int) (V:View) (R:Value→View→Prop) (I0:Unit→L_ref1_natDigit_0→View→Prop) (J0:Unit→L_ref1_natDigit_0→View→Nat) {X:Prop} (e:ref1_natDigit_sk p0 p1 V R I0 I0 (fun c w V x U=>I0 c w V∧J0 c w V<J0 c x U)=X) (h:X) :
 CallV Tryz.prog 387 #[p0.v,.int .u32 p1] V R :=
 calls_of_vc (Shp:=Shp) hmixed Tryz.func387 (c:=Tryz.f387.body.getD .skip) (args:=[p0.v,.int .u32 p1]) (by kernel_rfl)
 (.seq (.reg [A 4 2,A 5 2]) (.seq (.reg [A 10 2,A 11 0,A 12 3,A 6 2]) (.seq (.reg [A 7 2]) (.seq (.seq (.reg [A 13 2,A 14 0,A 15 0,A 8 2]) (.block (.loop Unit L_ref1_natDigit_0 (fun _=>()) (fun c x=>{ tm:=spT 44 0 [(0,.val (p0.v)),(1,.val (.int .u32 p1)),(6,.osl 12 0 (Int.toNat (p0.len:Int)) (Int.toNat (p0.len:Int))),(7,.val (.int .u64 x.t7)),(8,.val (.int .i64 x.t8))],own:=spO 44 0 [(12,⟨200,.dyn x.o12⟩)] }) I0 J0 (.seq (.seq (.reg [A 16 2,A 17 0]) (.cond .leaf .leaf)) (.seq (.block (.seq (.reg [A 20 2,A 21 0,A 22 2,A 23 2,A 24 7,A 25 5,A 26 0,A 27 0,A 9 2]) (.seq (.reg [A 28 2,A 29 2,A 30 2,A 31 2,A 32 0,A 33 12,A 34 0,A 35 7,A 12 6]) (.reg [A 36 2,A 37 2,A 38 0,A 39 12,A 7 2])))) (.reg [A 18 2,A 19 0,A 8 2])))))) (.seq (.pub 12 (.reg [A 40 2,A 41 10,A 42 2,A 43 0,A 4 2,A 5 2])) .leaf)))))
 (Eq.mpr (by kernel_rfl) (show ref1_natDigit_sk p0 p1 V R I0 (fun c w V=>∃x,ref1_natDigit_f0 p0 p1 c w x∧I0 c x V) (fun c w V y U=>∃x,ref1_natDigit_f0 p0 p1 c w x∧I0 c x V∧J0 c x V<J0 c y U)from by
 have h:=Eq.mpr e h; unfold ref1_natDigit_sk at h ⊢; have Ee0:=fun c w V (h:I0 c w V)=>(⟨w,⟨⟨rfl,rfl,rfl,rfl,rfl,trivial⟩,⟨rfl,trivial⟩⟩,h⟩:∃x,ref1_natDigit_f0 p0 p1 c w x∧I0 c x V); have Bb0:=fun c w V y U (h:I0 c w V∧J0 c w V<J0 c y U)=>(⟨w,⟨⟨rfl,rfl,rfl,rfl,rfl,trivial⟩,⟨rfl,trivial⟩⟩,h⟩:∃x,ref1_natDigit_f0 p0 p1 c w x∧I0 c x V∧J0 c x V<J0 c y U); exact⟨h.1,⟨(Ee0 _ _ _ h.2.1),fun x2 V1 h8 h9=>⟨fun h7=>⟨((h.2.2 x2 V1 h8 h9).1 h7).1,(match ((h.2.2 x2 V1 h8 h9).1 h7).2 with|⟨x3,h2,h1⟩=>⟨x3,h2,⟨h1.1,⟨h1.2.1,⟨h1.2.2.1,⟨h1.2.2.2.1,(Bb0 _ _ _ _ _ h1.2.2.2.2)⟩⟩⟩⟩⟩)⟩,fun h7=>(fun b1 V2 h5 h6=>(CallV.mono (((h.2.2 x2 V1 h8 h9).2 h7) b1 V2 h5 h6) (fun _ _ _ ⟨r1,h4,h3⟩=>⟨r1,h4,h3⟩)))⟩⟩⟩))
theorem ref1_natDigit_vc:type_of% (fun p0 p1 V R I0 J0=>ref1_natDigit_v0 p0 p1 V R I0 J0 (ref1_natDigit_sk.eq_1 ..)):=fun p0 p1 V R I0 J0=>ref1_natDigit_v0 p0 p1 V R I0 J0 (ref1_natDigit_sk.eq_1 ..)
structure L_ref1_NatBits_0 where
 t3:Int
 t4:Int
def ref1_NatBits_f0 (p0:Sl) (_c:Unit) (w x:L_ref1_NatBits_0):Prop:=(Q1 (.val (p0.v))∧E2 (.val (.int .i64 w.t3)) (.val (.int .i64 x.t3))∧E2 (.val (.int .u32 w.t4)) (.val (.int .u32 x.t4))∧True)∧(True)
def ref1_NatBits_sk (p0:Sl) (V:View) (R:Value→View→Prop) (I0:Unit→L_ref1_NatBits_0→View→Prop) (E0:Unit→L_ref1_NatBits_0→View→Prop) (B0:Unit→L_ref1_NatBits_0→View→L_ref1_NatBits_0→View→Prop):Prop :=
 ((((p0.len:Int):Int)==0)=true →
 R (.int .i64 0) V) ∧
 ((((p0.len:Int):Int)==0)=false →
 ((0:Int)≤(i64.wrap ((p0.len:Int)-1))∧((i64.wrap ((p0.len:Int)-1)):Int)<(p0.len:Nat)∧Option.isSome p0.a=true) ∧
 ∃x1:Int,View.load V (Option.map (fun q=>Addr.add q (Int.toNat (i64.wrap ((p0.len:Int)-1))*1)) p0.a)=some (.int .u32 x1) ∧
 E0 () (L_ref1_NatBits_0.mk 0 x1) V ∧
 (∀(x3:L_ref1_NatBits_0) (V1:View),View.le V V1→I0 () x3 V1 →
 ((decide ((x3.t4:Int)>0))=true →
 B0 () (L_ref1_NatBits_0.mk (i64.wrap (x3.t3+1)) (Int.fdiv x3.t4 (2^(min (Int.toNat 1) (u32.bits))))) V1 x3 V1) ∧
 ((decide ((x3.t4:Int)>0))=false →
 R (.int .i64 (i64.wrap ((i64.wrap (32*(i64.wrap ((p0.len:Int)-1))))+x3.t3))) V1)))
theorem ref1_NatBits_v0 (p0:Sl) (V:View) (R:Value→View→Prop) (I0:Unit→L_ref1_NatBits_0→View→Prop) (J0:Unit→L_ref1_NatBits_0→View→Nat) {X:Prop} (e:ref1_NatBits_sk p0 V R I0 I0 (fun c w V x U=>I0 c w V∧J0 c w V<J0 c x U)=X) (h:X) :
 CallV Tryz.prog 376 #[p0.v] V R :=
 calls_of_vc (Shp:=Shp) hmixed Tryz.func376 (c:=Tryz.f376.body.getD .skip) (args:=[p0.v]) (by kernel_rfl)
 (.seq (.reg [A 2 2]) (.seq (.seq (.reg [A 5 2,A 6 0,A 7 0]) (.cond (.seq (.reg [A 2 2]) .leaf) .leaf)) (.seq (.reg [A 3 2]) (.seq (.seq (.reg [A 8 2,A 9 2,A 10 0,A 11 0,A 12 7,A 13 5,A 4 2]) (.block (.loop Unit L_ref1_NatBits_0 (fun _=>()) (fun c x=>{ tm:=spT 26 0 [(0,.val (p0.v)),(3,.val (.int .i64 x.t3)),(4,.val (.int .u32 x.t4))],own:=spO 26 0 [] }) I0 J0 (.seq (.seq (.reg [A 14 2,A 15 0]) (.cond .leaf .leaf)) (.seq (.block (.reg [A 18 2,A 19 0,A 3 2])) (.reg [A 16 2,A 17 0,A 4 2])))))) (.seq (.reg [A 20 2,A 21 0,A 22 0,A 23 0,A 24 2,A 25 0,A 2 2]) .leaf)))))
 (Eq.mpr (by kernel_rfl) (show ref1_NatBits_sk p0 V R I0 (fun c w V=>∃x,ref1_NatBits_f0 p0 c w x∧I0 c x V) (fun c w V y U=>∃x,ref1_NatBits_f0 p0 c w x∧I0 c x V∧J0 c x V<J0 c y U)from by
 have h:=Eq.mpr e h; unfold ref1_NatBits_sk at h ⊢; have Ee0:=fun c w V (h:I0 c w V)=>(⟨w,⟨⟨rfl,rfl,rfl,trivial⟩,trivial⟩,h⟩:∃x,ref1_NatBits_f0 p0 c w x∧I0 c x V); have Bb0:=fun c w V y U (h:I0 c w V∧J0 c w V<J0 c y U)=>(⟨w,⟨⟨rfl,rfl,rfl,trivial⟩,trivial⟩,h⟩:∃x,ref1_NatBits_f0 p0 c w x∧I0 c x V∧J0 c x V<J0 c y U); exact⟨fun h6=>(h.1 h6),fun h6=>⟨(h.2 h6).1,(match (h.2 h6).2 with|⟨x1,h5,h4⟩=>⟨x1,h5,⟨(Ee0 _ _ _ h4.1),fun x3 V1 h2 h3=>⟨fun h1=>(Bb0 _ _ _ _ _ ((h4.2 x3 V1 h2 h3).1 h1)),fun h1=>((h4.2 x3 V1 h2 h3).2 h1)⟩⟩⟩)⟩⟩))
theorem ref1_NatBits_vc:type_of% (fun p0 V R I0 J0=>ref1_NatBits_v0 p0 V R I0 J0 (ref1_NatBits_sk.eq_1 ..)):=fun p0 V R I0 J0=>ref1_NatBits_v0 p0 V R I0 J0 (ref1_NatBits_sk.eq_1 ..)
structure L_ref1_NatShl_0 where
 t6:Int
 o17:List Value
def ref1_NatShl_f0 (p0:Sl) (p1:Int) (_c:Unit) (w x:L_ref1_NatShl_0):Prop:=(Q1 (.val (p0.v))∧Q1 (.val (.int .i64 p1))∧Q1 (.osl 17 0 (Int.toNat (i64.wrap ((i64.wrap ((p0.len:Int)+(i64.wrap (Int.tdiv p1 32))))+1))) (Int.toNat (i64.wrap ((i64.wrap ((p0.len:Int)+(i64.wrap (Int.tdiv p1 32))))+1))))∧E2 (.val (.int .i64 w.t6)) (.val (.int .i64 x.t6))∧True)∧(O2 ⟨200,.dyn w.o17⟩ ⟨200,.dyn x.o17⟩∧True)
def ref1_NatShl_sk (p0:Sl) (p1:Int) (V:View) (R:Value→View→Prop) (I0:Unit→L_ref1_NatShl_0→View→Prop) (E0:Unit→L_ref1_NatShl_0→View→Prop) (B0:Unit→L_ref1_NatShl_0→View→L_ref1_NatShl_0→View→Prop):Prop :=
 ((((p0.len:Int):Int)==0)=true →
 R ((Sl.mk none 0 0).v) V) ∧
 ((((p0.len:Int):Int)==0)=false →
 ((0:Int)≤(i64.wrap ((i64.wrap ((p0.len:Int)+(i64.wrap (Int.tdiv p1 32))))+1))∧((i64.wrap ((i64.wrap ((p0.len:Int)+(i64.wrap (Int.tdiv p1 32))))+1)):Int)≤(i64.wrap ((i64.wrap ((p0.len:Int)+(i64.wrap (Int.tdiv p1 32))))+1))∧(4:Int)*(i64.wrap ((i64.wrap ((p0.len:Int)+(i64.wrap (Int.tdiv p1 32))))+1))≤281474976710656∧((i64.wrap ((i64.wrap ((p0.len:Int)+(i64.wrap (Int.tdiv p1 32))))+1)):Int)≤9223372036854775807) ∧
 E0 () (L_ref1_NatShl_0.mk 0 ((List.replicate (Int.toNat (i64.wrap ((i64.wrap ((p0.len:Int)+(i64.wrap (Int.tdiv p1 32))))+1))) [Value.int .u32 0]).flatten)) V ∧
 (∀(x2:L_ref1_NatShl_0) (V1:View),View.le V V1→I0 () x2 V1 →
 ((decide ((x2.t6:Int)<(p0.len:Int)))=true →
 ((0:Int)≤x2.t6∧(x2.t6:Int)<(p0.len:Nat)∧Option.isSome p0.a=true) ∧
 ∃x3:Int,View.load V1 (Option.map (fun q=>Addr.add q (Int.toNat x2.t6*1)) p0.a)=some (.int .u32 x3) ∧
 (0:Int)≤(u64.wrap (Int.tmod p1 32)) ∧
 ((0:Int)≤(i64.wrap (x2.t6+(i64.wrap (Int.tdiv p1 32))))∧((i64.wrap (x2.t6+(i64.wrap (Int.tdiv p1 32)))):Int)<(Int.toNat (i64.wrap ((i64.wrap ((p0.len:Int)+(i64.wrap (Int.tdiv p1 32))))+1)):Nat)) ∧
 ∃x4:Int,x2.o17[0+Int.toNat (i64.wrap (x2.t6+(i64.wrap (Int.tdiv p1 32))))*1]?=some (.int .u32 x4) ∧
 ((0:Int)≤(i64.wrap (x2.t6+(i64.wrap (Int.tdiv p1 32))))∧((i64.wrap (x2.t6+(i64.wrap (Int.tdiv p1 32)))):Int)<(Int.toNat (i64.wrap ((i64.wrap ((p0.len:Int)+(i64.wrap (Int.tdiv p1 32))))+1)):Nat)) ∧
 0+Int.toNat (i64.wrap (x2.t6+(i64.wrap (Int.tdiv p1 32))))*1+1≤List.length x2.o17 ∧
 ((0:Int)≤(i64.wrap ((i64.wrap (x2.t6+(i64.wrap (Int.tdiv p1 32))))+1))∧((i64.wrap ((i64.wrap (x2.t6+(i64.wrap (Int.tdiv p1 32))))+1)):Int)<(Int.toNat (i64.wrap ((i64.wrap ((p0.len:Int)+(i64.wrap (Int.tdiv p1 32))))+1)):Nat)) ∧
 0+Int.toNat (i64.wrap ((i64.wrap (x2.t6+(i64.wrap (Int.tdiv p1 32))))+1))*1+1≤List.length (List.set x2.o17 (0+Int.toNat (i64.wrap (x2.t6+(i64.wrap (Int.tdiv p1 32))))*1) (.int .u32 (u32.wrap (BitVec.toNat ((BitVec.ofInt u32.bits x4) ||| (BitVec.ofInt u32.bits (u32.wrap (u64.wrap ((u64.wrap x3)*2^(min (Int.toNat (u64.wrap (Int.tmod p1 32))) (IntKind.bits .u64))))))))))) ∧
 B0 () (L_ref1_NatShl_0.mk (i64.wrap (x2.t6+1)) (List.set (List.set x2.o17 (0+Int.toNat (i64.wrap (x2.t6+(i64.wrap (Int.tdiv p1 32))))*1) (.int .u32 (u32.wrap (BitVec.toNat ((BitVec.ofInt u32.bits x4) ||| (BitVec.ofInt u32.bits (u32.wrap (u64.wrap ((u64.wrap x3)*2^(min (Int.toNat (u64.wrap (Int.tmod p1 32))) (IntKind.bits .u64))))))))))) (0+Int.toNat (i64.wrap ((i64.wrap (x2.t6+(i64.wrap (Int.tdiv p1 32))))+1))*1) (.int .u32 (u32.wrap (Int.fdiv (u64.wrap ((u64.wrap x3)*2^(min (Int.toNat (u64.wrap (Int.tmod p1 32))) (IntKind.bits .u64)))) (2^(min (Int.toNat 32) (u64.bits)))))))) V1 x2 V1) ∧
 ((decide ((x2.t6:Int)<(p0.len:Int)))=false →
 ∀(b1:Nat) (V2:View),View.le V1 V2→V2 b1=some (List.toArray x2.o17) →
 CallV Tryz.prog 348 #[(Sl.mk (some (Addr.mk b1 0 none)) (Int.toNat (i64.wrap ((i64.wrap ((p0.len:Int)+(i64.wrap (Int.tdiv p1 32))))+1))) (Int.toNat (i64.wrap ((i64.wrap ((p0.len:Int)+(i64.wrap (Int.tdiv p1 32))))+1)))).v] V2 fun v V3=>∃r1:Sl,v=r1.v ∧
 R (r1.v) V3)))
theorem ref1_NatShl_v0 (p0:Sl) (p1:Int) (V:View) (R:Value→View→Prop) (I0:Unit→L_ref1_NatShl_0→View→Prop) (J0:Unit→L_ref1_NatShl_0→View→Nat) {X:Prop} (e:ref1_NatShl_sk p0 p1 V R I0 I0 (fun c w V x U=>I0 c w V∧J0 c w V<J0 c x U)=X) (h:X) :
 CallV Tryz.prog 388 #[p0.v,.int .i64 p1] V R :=
 calls_of_vc (Shp:=Shp) hmixed Tryz.func388 (c:=Tryz.f388.body.getD .skip) (args:=[p0.v,.int .i64 p1]) (by kernel_rfl)
 (.seq (.reg [A 4 2]) (.seq (.seq (.reg [A 8 2,A 9 0,A 10 0]) (.cond (.seq (.reg [A 4 2]) .leaf) .leaf)) (.seq (.reg [A 11 2,A 12 0,A 13 2,A 14 0,A 15 0,A 16 0,A 17 3,A 5 2]) (.seq (.seq (.reg [A 6 2]) (.block (.loop Unit L_ref1_NatShl_0 (fun _=>()) (fun c x=>{ tm:=spT 61 0 [(0,.val (p0.v)),(1,.val (.int .i64 p1)),(5,.osl 17 0 (Int.toNat (i64.wrap ((i64.wrap ((p0.len:Int)+(i64.wrap (Int.tdiv p1 32))))+1))) (Int.toNat (i64.wrap ((i64.wrap ((p0.len:Int)+(i64.wrap (Int.tdiv p1 32))))+1)))),(6,.val (.int .i64 x.t6))],own:=spO 61 0 [(17,⟨200,.dyn x.o17⟩)] }) I0 J0 (.seq (.seq (.reg [A 18 2,A 19 2,A 20 0,A 21 0]) (.cond .leaf .leaf)) (.seq (.block (.seq (.reg [A 24 2,A 25 2,A 26 7,A 27 5,A 28 0,A 29 2,A 30 0,A 31 0,A 32 12,A 7 2]) (.seq (.reg [A 33 2,A 34 2,A 35 2,A 36 0,A 37 0,A 38 2,A 39 2,A 40 2,A 41 0,A 42 0,A 43 7,A 17 4,A 45 2,A 46 0,A 47 0,A 48 7,A 17 6]) (.reg [A 49 2,A 50 2,A 51 2,A 52 0,A 53 0,A 54 0,A 55 2,A 56 0,A 57 0,A 58 7,A 17 6])))) (.reg [A 22 2,A 23 0,A 6 2])))))) (.seq (.pub 17 (.reg [A 59 2,A 60 10,A 4 2])) .leaf)))))
 (Eq.mpr (by kernel_rfl) (show ref1_NatShl_sk p0 p1 V R I0 (fun c w V=>∃x,ref1_NatShl_f0 p0 p1 c w x∧I0 c x V) (fun c w V y U=>∃x,ref1_NatShl_f0 p0 p1 c w x∧I0 c x V∧J0 c x V<J0 c y U)from by
 have h:=Eq.mpr e h; unfold ref1_NatShl_sk at h ⊢; have Ee0:=fun c w V (h:I0 c w V)=>(⟨w,⟨⟨rfl,rfl,rfl,rfl,trivial⟩,⟨rfl,trivial⟩⟩,h⟩:∃x,ref1_NatShl_f0 p0 p1 c w x∧I0 c x V); have Bb0:=fun c w V y U (h:I0 c w V∧J0 c w V<J0 c y U)=>(⟨w,⟨⟨rfl,rfl,rfl,rfl,trivial⟩,⟨rfl,trivial⟩⟩,h⟩:∃x,ref1_NatShl_f0 p0 p1 c w x∧I0 c x V∧J0 c x V<J0 c y U); exact⟨fun h12=>(h.1 h12),fun h12=>⟨(h.2 h12).1,⟨(Ee0 _ _ _ (h.2 h12).2.1),fun x2 V1 h10 h11=>⟨fun h9=>⟨(((h.2 h12).2.2 x2 V1 h10 h11).1 h9).1,(match (((h.2 h12).2.2 x2 V1 h10 h11).1 h9).2 with|⟨x3,h4,h3⟩=>⟨x3,h4,⟨h3.1,⟨h3.2.1,(match h3.2.2 with|⟨x4,h2,h1⟩=>⟨x4,h2,⟨h1.1,⟨h1.2.1,⟨h1.2.2.1,⟨h1.2.2.2.1,(Bb0 _ _ _ _ _ h1.2.2.2.2)⟩⟩⟩⟩⟩)⟩⟩⟩)⟩,fun h9=>(fun b1 V2 h7 h8=>(CallV.mono ((((h.2 h12).2.2 x2 V1 h10 h11).2 h9) b1 V2 h7 h8) (fun _ _ _ ⟨r1,h6,h5⟩=>⟨r1,h6,h5⟩)))⟩⟩⟩⟩))
theorem ref1_NatShl_vc:type_of% (fun p0 p1 V R I0 J0=>ref1_NatShl_v0 p0 p1 V R I0 J0 (ref1_NatShl_sk.eq_1 ..)):=fun p0 p1 V R I0 J0=>ref1_NatShl_v0 p0 p1 V R I0 J0 (ref1_NatShl_sk.eq_1 ..)
structure L_ref1_NatShr_0 where
 t6:Int
 o18:List Value
def ref1_NatShr_f0 (p0:Sl) (p1:Int) (_c:Unit) (w x:L_ref1_NatShr_0):Prop:=(Q1 (.val (p0.v))∧Q1 (.val (.int .i64 p1))∧Q1 (.osl 18 0 (Int.toNat (i64.wrap ((p0.len:Int)-(i64.wrap (Int.tdiv p1 32))))) (Int.toNat (i64.wrap ((p0.len:Int)-(i64.wrap (Int.tdiv p1 32))))))∧E2 (.val (.int .i64 w.t6)) (.val (.int .i64 x.t6))∧True)∧(O2 ⟨200,.dyn w.o18⟩ ⟨200,.dyn x.o18⟩∧True)
def ref1_NatShr_sk (p0:Sl) (p1:Int) (V:View) (R:Value→View→Prop) (I0:Unit→L_ref1_NatShr_0→View→Prop) (E0:Unit→L_ref1_NatShr_0→View→Prop) (B0:Unit→L_ref1_NatShr_0→View→L_ref1_NatShr_0→View→Prop):Prop :=
 ((decide (((i64.wrap (Int.tdiv p1 32)):Int)≥(p0.len:Int)))=true →
 R ((Sl.mk none 0 0).v) V) ∧
 ((decide (((i64.wrap (Int.tdiv p1 32)):Int)≥(p0.len:Int)))=false →
 ((0:Int)≤(i64.wrap ((p0.len:Int)-(i64.wrap (Int.tdiv p1 32))))∧((i64.wrap ((p0.len:Int)-(i64.wrap (Int.tdiv p1 32)))):Int)≤(i64.wrap ((p0.len:Int)-(i64.wrap (Int.tdiv p1 32))))∧(4:Int)*(i64.wrap ((p0.len:Int)-(i64.wrap (Int.tdiv p1 32))))≤281474976710656∧((i64.wrap ((p0.len:Int)-(i64.wrap (Int.tdiv p1 32)))):Int)≤9223372036854775807) ∧
 E0 () (L_ref1_NatShr_0.mk 0 ((List.replicate (Int.toNat (i64.wrap ((p0.len:Int)-(i64.wrap (Int.tdiv p1 32))))) [Value.int .u32 0]).flatten)) V ∧
 (∀(x2:L_ref1_NatShr_0) (V1:View),View.le V V1→I0 () x2 V1 →
 ((decide ((x2.t6:Int)<((Int.toNat (i64.wrap ((p0.len:Int)-(i64.wrap (Int.tdiv p1 32)))):Nat):Int)))=true →
 ((0:Int)≤(i64.wrap (x2.t6+(i64.wrap (Int.tdiv p1 32))))∧((i64.wrap (x2.t6+(i64.wrap (Int.tdiv p1 32)))):Int)<(p0.len:Nat)∧Option.isSome p0.a=true) ∧
 ∃x3:Int,View.load V1 (Option.map (fun q=>Addr.add q (Int.toNat (i64.wrap (x2.t6+(i64.wrap (Int.tdiv p1 32))))*1)) p0.a)=some (.int .u32 x3) ∧
 ((decide (((i64.wrap ((i64.wrap (x2.t6+(i64.wrap (Int.tdiv p1 32))))+1)):Int)<(p0.len:Int)))=true →
 ((0:Int)≤(i64.wrap ((i64.wrap (x2.t6+(i64.wrap (Int.tdiv p1 32))))+1))∧((i64.wrap ((i64.wrap (x2.t6+(i64.wrap (Int.tdiv p1 32))))+1)):Int)<(p0.len:Nat)∧Option.isSome p0.a=true) ∧
 ∃x4:Int,View.load V1 (Option.map (fun q=>Addr.add q (Int.toNat (i64.wrap ((i64.wrap (x2.t6+(i64.wrap (Int.tdiv p1 32))))+1))*1)) p0.a)=some (.int .u32 x4) ∧
 (0:Int)≤(u64.wrap (Int.tmod p1 32)) ∧
 ((0:Int)≤x2.t6∧(x2.t6:Int)<(Int.toNat (i64.wrap ((p0.len:Int)-(i64.wrap (Int.tdiv p1 32)))):Nat)) ∧
 0+Int.toNat x2.t6*1+1≤List.length x2.o18 ∧
 B0 () (L_ref1_NatShr_0.mk (i64.wrap (x2.t6+1)) (List.set x2.o18 (0+Int.toNat x2.t6*1) (.int .u32 (u32.wrap (Int.fdiv (u64.wrap (BitVec.toNat ((BitVec.ofInt u64.bits (u64.wrap x3)) ||| (BitVec.ofInt u64.bits (u64.wrap ((u64.wrap x4)*2^(min (Int.toNat 32) (u64.bits)))))))) (2^(min (Int.toNat (u64.wrap (Int.tmod p1 32))) (IntKind.bits .u64)))))))) V1 x2 V1) ∧
 ((decide (((i64.wrap ((i64.wrap (x2.t6+(i64.wrap (Int.tdiv p1 32))))+1)):Int)<(p0.len:Int)))=false →
 (0:Int)≤(u64.wrap (Int.tmod p1 32)) ∧
 ((0:Int)≤x2.t6∧(x2.t6:Int)<(Int.toNat (i64.wrap ((p0.len:Int)-(i64.wrap (Int.tdiv p1 32)))):Nat)) ∧
 0+Int.toNat x2.t6*1+1≤List.length x2.o18 ∧
 B0 () (L_ref1_NatShr_0.mk (i64.wrap (x2.t6+1)) (List.set x2.o18 (0+Int.toNat x2.t6*1) (.int .u32 (u32.wrap (Int.fdiv (u64.wrap x3) (2^(min (Int.toNat (u64.wrap (Int.tmod p1 32))) (IntKind.bits .u64)))))))) V1 x2 V1)) ∧
 ((decide ((x2.t6:Int)<((Int.toNat (i64.wrap ((p0.len:Int)-(i64.wrap (Int.tdiv p1 32)))):Nat):Int)))=false →
 ∀(b1:Nat) (V2:View),View.le V1 V2→V2 b1=some (List.toArray x2.o18) →
 CallV Tryz.prog 348 #[(Sl.mk (some (Addr.mk b1 0 none)) (Int.toNat (i64.wrap ((p0.len:Int)-(i64.wrap (Int.tdiv p1 32))))) (Int.toNat (i64.wrap ((p0.len:Int)-(i64.wrap (Int.tdiv p1 32)))))).v] V2 fun v V3=>∃r1:Sl,v=r1.v ∧
 R (r1.v) V3)))
theorem ref1_NatShr_v0 (p0:Sl) (p1:Int) (V:View) (R:Value→View→Prop) (I0:Unit→L_ref1_NatShr_0→View→Prop) (J0:Unit→L_ref1_NatShr_0→View→Nat) {X:Prop} (e:ref1_NatShr_sk p0 p1 V R I0 I0 (fun c w V x U=>I0 c w V∧J0 c w V<J0 c x U)=X) (h:X) :
 CallV Tryz.prog 377 #[p0.v,.int .i64 p1] V R :=
 calls_of_vc (Shp:=Shp) hmixed Tryz.func377 (c:=Tryz.f377.body.getD .skip) (args:=[p0.v,.int .i64 p1]) (by kernel_rfl)
 (.seq (.reg [A 4 2]) (.seq (.seq (.reg [A 8 2,A 9 0,A 10 2,A 11 0,A 12 0]) (.cond (.seq (.reg [A 4 2]) .leaf) .leaf)) (.seq (.reg [A 13 2,A 14 0,A 15 2,A 16 0,A 17 0,A 18 3,A 5 2]) (.seq (.seq (.reg [A 6 2]) (.block (.loop Unit L_ref1_NatShr_0 (fun _=>()) (fun c x=>{ tm:=spT 64 0 [(0,.val (p0.v)),(1,.val (.int .i64 p1)),(5,.osl 18 0 (Int.toNat (i64.wrap ((p0.len:Int)-(i64.wrap (Int.tdiv p1 32))))) (Int.toNat (i64.wrap ((p0.len:Int)-(i64.wrap (Int.tdiv p1 32)))))),(6,.val (.int .i64 x.t6))],own:=spO 64 0 [(18,⟨200,.dyn x.o18⟩)] }) I0 J0 (.seq (.seq (.reg [A 19 2,A 20 2,A 21 7,A 22 0]) (.cond .leaf .leaf)) (.seq (.block (.seq (.reg [A 25 2,A 26 2,A 27 2,A 28 0,A 29 0,A 30 7,A 31 5,A 32 0,A 7 2]) (.seq (.seq (.reg [A 33 2,A 34 2,A 35 0,A 36 0,A 37 0,A 38 2,A 39 0,A 40 0]) (.cond (.reg [A 41 2,A 42 2,A 43 2,A 44 2,A 45 0,A 46 0,A 47 0,A 48 7,A 49 5,A 50 0,A 51 0,A 52 0,A 7 2]) .leaf)) (.reg [A 53 2,A 54 2,A 55 2,A 56 2,A 57 0,A 58 0,A 59 12,A 60 0,A 61 7,A 18 6])))) (.reg [A 23 2,A 24 0,A 6 2])))))) (.seq (.pub 18 (.reg [A 62 2,A 63 10,A 4 2])) .leaf)))))
 (Eq.mpr (by kernel_rfl) (show ref1_NatShr_sk p0 p1 V R I0 (fun c w V=>∃x,ref1_NatShr_f0 p0 p1 c w x∧I0 c x V) (fun c w V y U=>∃x,ref1_NatShr_f0 p0 p1 c w x∧I0 c x V∧J0 c x V<J0 c y U)from by
 have h:=Eq.mpr e h; unfold ref1_NatShr_sk at h ⊢; have Ee0:=fun c w V (h:I0 c w V)=>(⟨w,⟨⟨rfl,rfl,rfl,rfl,trivial⟩,⟨rfl,trivial⟩⟩,h⟩:∃x,ref1_NatShr_f0 p0 p1 c w x∧I0 c x V); have Bb0:=fun c w V y U (h:I0 c w V∧J0 c w V<J0 c y U)=>(⟨w,⟨⟨rfl,rfl,rfl,rfl,trivial⟩,⟨rfl,trivial⟩⟩,h⟩:∃x,ref1_NatShr_f0 p0 p1 c w x∧I0 c x V∧J0 c x V<J0 c y U); exact⟨fun h13=>(h.1 h13),fun h13=>⟨(h.2 h13).1,⟨(Ee0 _ _ _ (h.2 h13).2.1),fun x2 V1 h11 h12=>⟨fun h10=>⟨(((h.2 h13).2.2 x2 V1 h11 h12).1 h10).1,(match (((h.2 h13).2.2 x2 V1 h11 h12).1 h10).2 with|⟨x3,h5,h4⟩=>⟨x3,h5,⟨fun h3=>⟨(h4.1 h3).1,(match (h4.1 h3).2 with|⟨x4,h2,h1⟩=>⟨x4,h2,⟨h1.1,⟨h1.2.1,⟨h1.2.2.1,(Bb0 _ _ _ _ _ h1.2.2.2)⟩⟩⟩⟩)⟩,fun h3=>⟨(h4.2 h3).1,⟨(h4.2 h3).2.1,⟨(h4.2 h3).2.2.1,(Bb0 _ _ _ _ _ (h4.2 h3).2.2.2)⟩⟩⟩⟩⟩)⟩,fun h10=>(fun b1 V2 h8 h9=>(CallV.mono ((((h.2 h13).2.2 x2 V1 h11 h12).2 h10) b1 V2 h8 h9) (fun _ _ _ ⟨r1,h7,h6⟩=>⟨r1,h7,h6⟩)))⟩⟩⟩⟩))
theorem ref1_NatShr_vc:type_of% (fun p0 p1 V R I0 J0=>ref1_NatShr_v0 p0 p1 V R I0 J0 (ref1_NatShr_sk.eq_1 ..)):=fun p0 p1 V R I0 J0=>ref1_NatShr_v0 p0 p1 V R I0 J0 (ref1_NatShr_sk.eq_1 ..)
end Go.Proofs.YtfdaofhjkdabbaaGreat
