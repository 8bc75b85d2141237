/- Part of the proof; it has the parts FR3. -/
import Derived.Test.YtfdaofhjkdabbaaGreatFR4
set_option maxRecDepth 100000
set_option maxHeartbeats 4000000
namespace Go.Proofs.YtfdaofhjkdabbaaGreat
open Go Go.Vc Go.Proofs
open Go.IntKind (i8 i16 i32 i64 u8 u16 u32 u64)
structure L_ref1_NatDiv_0 where
 t13:Int
 o57:List Value
 o69:List Value
structure C_ref1_NatDiv_0 where
 t8:Int
 t9:Sl
 t11:Int
 t12l:Nat
 t12c:Nat
structure L_ref1_NatDiv_1 where
 t15:Int
structure C_ref1_NatDiv_1 where
 t8:Int
 t9:Sl
 t11:Int
 t12l:Nat
 t12c:Nat
 t13:Int
 o57:List Value
 o69:List Value
structure L_ref1_NatDiv_2 where
 t15:Int
 t16:Int
structure C_ref1_NatDiv_2 where
 t8:Int
 t9:Sl
 t11:Int
 t12l:Nat
 t12c:Nat
 t13:Int
 o57:List Value
 o69:List Value
structure L_ref1_NatDiv_3 where
 t17:Int
 t18:Int
 t19:Int
 o57:List Value
 o69:List Value
structure C_ref1_NatDiv_3 where
 t8:Int
 t9:Sl
 t11:Int
 t12l:Nat
 t12c:Nat
 t13:Int
 t15:Int
structure L_ref1_NatDiv_4 where
 t18:Int
 t23:Int
 o57:List Value
 o69:List Value
structure C_ref1_NatDiv_4 where
 t8:Int
 t9:Sl
 t11:Int
 t12l:Nat
 t12c:Nat
 t13:Int
 t15:Int
def ref1_NatDiv_f0 (p0:Sl) (c:C_ref1_NatDiv_0) (w x:L_ref1_NatDiv_0):Prop:=(Q1 (.val (.int .i64 c.t8))∧Q1 (.val (c.t9.v))∧Q1 (.osl 57 0 (Int.toNat (i64.wrap ((p0.len:Int)+1))) (Int.toNat (i64.wrap ((p0.len:Int)+1))))∧Q1 (.val (.int .i64 c.t11))∧Q1 (.osl 69 0 c.t12l c.t12c)∧E2 (.val (.int .i64 w.t13)) (.val (.int .i64 x.t13))∧True)∧(O2 ⟨200,.dyn w.o57⟩ ⟨200,.dyn x.o57⟩∧O2 ⟨200,.dyn w.o69⟩ ⟨200,.dyn x.o69⟩∧True)
def ref1_NatDiv_f1 (p0:Sl) (c:C_ref1_NatDiv_1) (w x:L_ref1_NatDiv_1):Prop:=(Q1 (.val (.int .i64 c.t8))∧Q1 (.val (c.t9.v))∧Q1 (.osl 57 0 (Int.toNat (i64.wrap ((p0.len:Int)+1))) (Int.toNat (i64.wrap ((p0.len:Int)+1))))∧Q1 (.val (.int .i64 c.t11))∧Q1 (.osl 69 0 c.t12l c.t12c)∧Q1 (.val (.int .i64 c.t13))∧E2 (.val (.int .u64 w.t15)) (.val (.int .u64 x.t15))∧True)∧(O2 ⟨200,.dyn c.o57⟩ ⟨200,.dyn c.o57⟩∧O2 ⟨200,.dyn c.o69⟩ ⟨200,.dyn c.o69⟩∧True)
def ref1_NatDiv_f2 (p0:Sl) (c:C_ref1_NatDiv_2) (w x:L_ref1_NatDiv_2):Prop:=(Q1 (.val (.int .i64 c.t8))∧Q1 (.val (c.t9.v))∧Q1 (.osl 57 0 (Int.toNat (i64.wrap ((p0.len:Int)+1))) (Int.toNat (i64.wrap ((p0.len:Int)+1))))∧Q1 (.val (.int .i64 c.t11))∧Q1 (.osl 69 0 c.t12l c.t12c)∧Q1 (.val (.int .i64 c.t13))∧E2 (.val (.int .u64 w.t15)) (.val (.int .u64 x.t15))∧E2 (.val (.int .u64 w.t16)) (.val (.int .u64 x.t16))∧True)∧(O2 ⟨200,.dyn c.o57⟩ ⟨200,.dyn c.o57⟩∧O2 ⟨200,.dyn c.o69⟩ ⟨200,.dyn c.o69⟩∧True)
def ref1_NatDiv_f3 (p0:Sl) (c:C_ref1_NatDiv_3) (w x:L_ref1_NatDiv_3):Prop:=(Q1 (.val (.int .i64 c.t8))∧Q1 (.val (c.t9.v))∧Q1 (.osl 57 0 (Int.toNat (i64.wrap ((p0.len:Int)+1))) (Int.toNat (i64.wrap ((p0.len:Int)+1))))∧Q1 (.val (.int .i64 c.t11))∧Q1 (.osl 69 0 c.t12l c.t12c)∧Q1 (.val (.int .i64 c.t13))∧Q1 (.val (.int .u64 c.t15))∧E2 (.val (.int .u64 w.t17)) (.val (.int .u64 x.t17))∧E2 (.val (.int .u64 w.t18)) (.val (.int .u64 x.t18))∧E2 (.val (.int .i64 w.t19)) (.val (.int .i64 x.t19))∧True)∧(O2 ⟨200,.dyn w.o57⟩ ⟨200,.dyn x.o57⟩∧O2 ⟨200,.dyn w.o69⟩ ⟨200,.dyn x.o69⟩∧True)
def ref1_NatDiv_f4 (p0:Sl) (c:C_ref1_NatDiv_4) (w x:L_ref1_NatDiv_4):Prop:=(Q1 (.val (.int .i64 c.t8))∧Q1 (.val (c.t9.v))∧Q1 (.osl 57 0 (Int.toNat (i64.wrap ((p0.len:Int)+1))) (Int.toNat (i64.wrap ((p0.len:Int)+1))))∧Q1 (.val (.int .i64 c.t11))∧Q1 (.osl 69 0 c.t12l c.t12c)∧Q1 (.val (.int .i64 c.t13))∧Q1 (.val (.int .u64 c.t15))∧E2 (.val (.int .u64 w.t18)) (.val (.int .u64 x.t18))∧E2 (.val (.int .i64 w.t23)) (.val (.int .i64 x.t23))∧True)∧(O2 ⟨200,.dyn w.o57⟩ ⟨200,.dyn x.o57⟩∧O2 ⟨200,.dyn w.o69⟩ ⟨200,.dyn x.o69⟩∧True)
def ref1_NatDiv_sk (p0:Sl) (p1:Sl) (V:View) (R:Value→View→Prop) (I0:C_ref1_NatDiv_0→L_ref1_NatDiv_0→View→Prop) (I1:C_ref1_NatDiv_1→L_ref1_NatDiv_1→View→Prop) (I2:C_ref1_NatDiv_2→L_ref1_NatDiv_2→View→Prop) (I3:C_ref1_NatDiv_3→L_ref1_NatDiv_3→View→Prop) (I4:C_ref1_NatDiv_4→L_ref1_NatDiv_4→View→Prop) (E0:C_ref1_NatDiv_0→L_ref1_NatDiv_0→View→Prop) (B0:C_ref1_NatDiv_0→L_ref1_NatDiv_0→View→L_ref1_NatDiv_0→View→Prop) (E1:C_ref1_NatDiv_1→L_ref1_NatDiv_1→View→Prop) (E2:C_ref1_NatDiv_2→L_ref1_NatDiv_2→View→Prop) (B2:C_ref1_NatDiv_2→L_ref1_NatDiv_2→View→L_ref1_NatDiv_2→View→Prop) (E3:C_ref1_NatDiv_3→L_ref1_NatDiv_3→View→Prop) (B3:C_ref1_NatDiv_3→L_ref1_NatDiv_3→View→L_ref1_NatDiv_3→View→Prop) (E4:C_ref1_NatDiv_4→L_ref1_NatDiv_4→View→Prop) (B4:C_ref1_NatDiv_4→L_ref1_NatDiv_4→View→L_ref1_NatDiv_4→View→Prop):Prop :=
 CallV Tryz.prog 346 #[p0.v,p1.v] V fun v V1=>∃r1:Int,v = .int .i64 r1 ∧
 ((decide ((r1:Int)<0))=true →
 R (.tuple #[(Sl.mk none 0 0).v,p0.v]) V1) ∧
 ((decide ((r1:Int)<0))=false →
 ((((p1.len:Int):Int)==1)=true →
 ((0:Int)≤0∧(0:Int)<(p1.len:Nat)∧Option.isSome p1.a=true) ∧
 ∃x1:Int,View.load V1 (Option.map (fun q=>Addr.add q (Int.toNat 0*1)) p1.a)=some (.int .u32 x1) ∧
 CallV Tryz.prog 387 #[p0.v,.int .u32 x1] V1 fun v V2=>∃(r2:Sl) (r3:Int),v = .tuple #[r2.v,.int .u32 r3] ∧
 CallV Tryz.prog 341 #[.int .u64 (u64.wrap r3)] V2 fun v V3=>∃r4:Sl,v=r4.v ∧
 R (.tuple #[r2.v,r4.v]) V3) ∧
 ((((p1.len:Int):Int)==1)=false →
 CallV Tryz.prog 376 #[p1.v] V1 fun v V4=>∃r5:Int,v = .int .i64 r5 ∧
 CallV Tryz.prog 388 #[p1.v,.int .i64 (i64.wrap ((i64.wrap (32*(p1.len:Int)))-r5))] V4 fun v V5=>∃r6:Sl,v=r6.v ∧
 ((0:Int)≤(i64.wrap ((p0.len:Int)+1))∧((i64.wrap ((p0.len:Int)+1)):Int)≤(i64.wrap ((p0.len:Int)+1))∧(4:Int)*(i64.wrap ((p0.len:Int)+1))≤281474976710656∧((i64.wrap ((p0.len:Int)+1)):Int)≤9223372036854775807) ∧
 CallV Tryz.prog 388 #[p0.v,.int .i64 (i64.wrap ((i64.wrap (32*(p1.len:Int)))-r5))] V5 fun v V6=>∃r7:Sl,v=r7.v ∧
 ∃l1:List Value,View.has V6 r7.a l1∧List.length l1=(min r7.len (Int.toNat (i64.wrap ((p0.len:Int)+1))))*1∧(l1=[]∨Option.isSome r7.a=true)∧(∀v∈l1,Value.oneCell' v=true)∧0+List.length l1≤List.length ((List.replicate (Int.toNat (i64.wrap ((p0.len:Int)+1))) [Value.int .u32 0]).flatten) ∧
 ((0:Int)≤(i64.wrap (((Int.toNat (i64.wrap ((p0.len:Int)+1)):Nat):Int)-(r6.len:Int)))∧((i64.wrap (((Int.toNat (i64.wrap ((p0.len:Int)+1)):Nat):Int)-(r6.len:Int))):Int)≤(i64.wrap (((Int.toNat (i64.wrap ((p0.len:Int)+1)):Nat):Int)-(r6.len:Int)))∧(4:Int)*(i64.wrap (((Int.toNat (i64.wrap ((p0.len:Int)+1)):Nat):Int)-(r6.len:Int)))≤281474976710656∧((i64.wrap (((Int.toNat (i64.wrap ((p0.len:Int)+1)):Nat):Int)-(r6.len:Int))):Int)≤9223372036854775807) ∧
 E0 (C_ref1_NatDiv_0.mk (i64.wrap ((i64.wrap (32*(p1.len:Int)))-r5)) r6 (r6.len:Int) (Int.toNat (i64.wrap (((Int.toNat (i64.wrap ((p0.len:Int)+1)):Nat):Int)-(r6.len:Int)))) (Int.toNat (i64.wrap (((Int.toNat (i64.wrap ((p0.len:Int)+1)):Nat):Int)-(r6.len:Int))))) (L_ref1_NatDiv_0.mk (i64.wrap (((Int.toNat (i64.wrap (((Int.toNat (i64.wrap ((p0.len:Int)+1)):Nat):Int)-(r6.len:Int))):Nat):Int)-1)) (setL ((List.replicate (Int.toNat (i64.wrap ((p0.len:Int)+1))) [Value.int .u32 0]).flatten) 0 l1) ((List.replicate (Int.toNat (i64.wrap (((Int.toNat (i64.wrap ((p0.len:Int)+1)):Nat):Int)-(r6.len:Int)))) [Value.int .u32 0]).flatten)) V6 ∧
 (∀(x3:L_ref1_NatDiv_0) (V7:View),View.le V6 V7→I0 (C_ref1_NatDiv_0.mk (i64.wrap ((i64.wrap (32*(p1.len:Int)))-r5)) r6 (r6.len:Int) (Int.toNat (i64.wrap (((Int.toNat (i64.wrap ((p0.len:Int)+1)):Nat):Int)-(r6.len:Int)))) (Int.toNat (i64.wrap (((Int.toNat (i64.wrap ((p0.len:Int)+1)):Nat):Int)-(r6.len:Int))))) x3 V7 →
 ((decide ((x3.t13:Int)≥0))=true →
 ((0:Int)≤(i64.wrap (x3.t13+(r6.len:Int)))∧((i64.wrap (x3.t13+(r6.len:Int))):Int)<(Int.toNat (i64.wrap ((p0.len:Int)+1)):Nat)) ∧
 ∃x4:Int,x3.o57[0+Int.toNat (i64.wrap (x3.t13+(r6.len:Int)))*1]?=some (.int .u32 x4) ∧
 ((0:Int)≤(i64.wrap ((i64.wrap (x3.t13+(r6.len:Int)))-1))∧((i64.wrap ((i64.wrap (x3.t13+(r6.len:Int)))-1)):Int)<(Int.toNat (i64.wrap ((p0.len:Int)+1)):Nat)) ∧
 ∃x5:Int,x3.o57[0+Int.toNat (i64.wrap ((i64.wrap (x3.t13+(r6.len:Int)))-1))*1]?=some (.int .u32 x5) ∧
 ((0:Int)≤(i64.wrap ((r6.len:Int)-1))∧((i64.wrap ((r6.len:Int)-1)):Int)<(r6.len:Nat)∧Option.isSome r6.a=true) ∧
 ∃x6:Int,View.load V7 (Option.map (fun q=>Addr.add q (Int.toNat (i64.wrap ((r6.len:Int)-1))*1)) r6.a)=some (.int .u32 x6) ∧
 ((u64.wrap x6):Int)≠0 ∧
 ((0:Int)≤(i64.wrap ((r6.len:Int)-1))∧((i64.wrap ((r6.len:Int)-1)):Int)<(r6.len:Nat)∧Option.isSome r6.a=true) ∧
 ∃x7:Int,View.load V7 (Option.map (fun q=>Addr.add q (Int.toNat (i64.wrap ((r6.len:Int)-1))*1)) r6.a)=some (.int .u32 x7) ∧
 ((u64.wrap x7):Int)≠0 ∧
 (E2 (C_ref1_NatDiv_2.mk (i64.wrap ((i64.wrap (32*(p1.len:Int)))-r5)) r6 (r6.len:Int) (Int.toNat (i64.wrap (((Int.toNat (i64.wrap ((p0.len:Int)+1)):Nat):Int)-(r6.len:Int)))) (Int.toNat (i64.wrap (((Int.toNat (i64.wrap ((p0.len:Int)+1)):Nat):Int)-(r6.len:Int)))) x3.t13 x3.o57 x3.o69) (L_ref1_NatDiv_2.mk (u64.wrap (Int.tdiv (u64.wrap (BitVec.toNat ((BitVec.ofInt u64.bits (u64.wrap ((u64.wrap x4)*2^(min (Int.toNat 32) (u64.bits))))) ||| (BitVec.ofInt u64.bits (u64.wrap x5))))) (u64.wrap x6))) (Int.tmod (u64.wrap (BitVec.toNat ((BitVec.ofInt u64.bits (u64.wrap ((u64.wrap x4)*2^(min (Int.toNat 32) (u64.bits))))) ||| (BitVec.ofInt u64.bits (u64.wrap x5))))) (u64.wrap x7))) V7 ∧
 (∀(x10:L_ref1_NatDiv_2) (V9:View),View.le V7 V9→I2 (C_ref1_NatDiv_2.mk (i64.wrap ((i64.wrap (32*(p1.len:Int)))-r5)) r6 (r6.len:Int) (Int.toNat (i64.wrap (((Int.toNat (i64.wrap ((p0.len:Int)+1)):Nat):Int)-(r6.len:Int)))) (Int.toNat (i64.wrap (((Int.toNat (i64.wrap ((p0.len:Int)+1)):Nat):Int)-(r6.len:Int)))) x3.t13 x3.o57 x3.o69) x10 V9 →
 ((decide ((x10.t15:Int)≥4294967296))=true →
 (true=true →
 ((0:Int)≤(i64.wrap ((r6.len:Int)-1))∧((i64.wrap ((r6.len:Int)-1)):Int)<(r6.len:Nat)∧Option.isSome r6.a=true) ∧
 ∃x11:Int,View.load V9 (Option.map (fun q=>Addr.add q (Int.toNat (i64.wrap ((r6.len:Int)-1))*1)) r6.a)=some (.int .u32 x11) ∧
 ((decide (((u64.wrap (x10.t16+(u64.wrap x11))):Int)≥4294967296))=true →
 E1 (C_ref1_NatDiv_1.mk (i64.wrap ((i64.wrap (32*(p1.len:Int)))-r5)) r6 (r6.len:Int) (Int.toNat (i64.wrap (((Int.toNat (i64.wrap ((p0.len:Int)+1)):Nat):Int)-(r6.len:Int)))) (Int.toNat (i64.wrap (((Int.toNat (i64.wrap ((p0.len:Int)+1)):Nat):Int)-(r6.len:Int)))) x3.t13 x3.o57 x3.o69) (L_ref1_NatDiv_1.mk (u64.wrap (x10.t15-1))) V9) ∧
 ((decide (((u64.wrap (x10.t16+(u64.wrap x11))):Int)≥4294967296))=false →
 B2 (C_ref1_NatDiv_2.mk (i64.wrap ((i64.wrap (32*(p1.len:Int)))-r5)) r6 (r6.len:Int) (Int.toNat (i64.wrap (((Int.toNat (i64.wrap ((p0.len:Int)+1)):Nat):Int)-(r6.len:Int)))) (Int.toNat (i64.wrap (((Int.toNat (i64.wrap ((p0.len:Int)+1)):Nat):Int)-(r6.len:Int)))) x3.t13 x3.o57 x3.o69) (L_ref1_NatDiv_2.mk (u64.wrap (x10.t15-1)) (u64.wrap (x10.t16+(u64.wrap x11)))) V9 x10 V9)) ∧
 (true=false →
 E1 (C_ref1_NatDiv_1.mk (i64.wrap ((i64.wrap (32*(p1.len:Int)))-r5)) r6 (r6.len:Int) (Int.toNat (i64.wrap (((Int.toNat (i64.wrap ((p0.len:Int)+1)):Nat):Int)-(r6.len:Int)))) (Int.toNat (i64.wrap (((Int.toNat (i64.wrap ((p0.len:Int)+1)):Nat):Int)-(r6.len:Int)))) x3.t13 x3.o57 x3.o69) (L_ref1_NatDiv_1.mk x10.t15) V9)) ∧
 ((decide ((x10.t15:Int)≥4294967296))=false →
 ((0:Int)≤(i64.wrap ((r6.len:Int)-2))∧((i64.wrap ((r6.len:Int)-2)):Int)<(r6.len:Nat)∧Option.isSome r6.a=true) ∧
 ∃x15:Int,View.load V9 (Option.map (fun q=>Addr.add q (Int.toNat (i64.wrap ((r6.len:Int)-2))*1)) r6.a)=some (.int .u32 x15) ∧
 ((0:Int)≤(i64.wrap ((i64.wrap (x3.t13+(r6.len:Int)))-2))∧((i64.wrap ((i64.wrap (x3.t13+(r6.len:Int)))-2)):Int)<(Int.toNat (i64.wrap ((p0.len:Int)+1)):Nat)) ∧
 ∃x16:Int,x3.o57[0+Int.toNat (i64.wrap ((i64.wrap (x3.t13+(r6.len:Int)))-2))*1]?=some (.int .u32 x16) ∧
 ((decide (((u64.wrap (x10.t15*(u64.wrap x15))):Int)>(u64.wrap (BitVec.toNat ((BitVec.ofInt u64.bits (u64.wrap (x10.t16*2^(min (Int.toNat 32) (u64.bits))))) ||| (BitVec.ofInt u64.bits (u64.wrap x16)))))))=true →
 ((0:Int)≤(i64.wrap ((r6.len:Int)-1))∧((i64.wrap ((r6.len:Int)-1)):Int)<(r6.len:Nat)∧Option.isSome r6.a=true) ∧
 ∃x17:Int,View.load V9 (Option.map (fun q=>Addr.add q (Int.toNat (i64.wrap ((r6.len:Int)-1))*1)) r6.a)=some (.int .u32 x17) ∧
 ((decide (((u64.wrap (x10.t16+(u64.wrap x17))):Int)≥4294967296))=true →
 E1 (C_ref1_NatDiv_1.mk (i64.wrap ((i64.wrap (32*(p1.len:Int)))-r5)) r6 (r6.len:Int) (Int.toNat (i64.wrap (((Int.toNat (i64.wrap ((p0.len:Int)+1)):Nat):Int)-(r6.len:Int)))) (Int.toNat (i64.wrap (((Int.toNat (i64.wrap ((p0.len:Int)+1)):Nat):Int)-(r6.len:Int)))) x3.t13 x3.o57 x3.o69) (L_ref1_NatDiv_1.mk (u64.wrap (x10.t15-1))) V9) ∧
 ((decide (((u64.wrap (x10.t16+(u64.wrap x17))):Int)≥4294967296))=false →
 B2 (C_ref1_NatDiv_2.mk (i64.wrap ((i64.wrap (32*(p1.len:Int)))-r5)) r6 (r6.len:Int) (Int.toNat (i64.wrap (((Int.toNat (i64.wrap ((p0.len:Int)+1)):Nat):Int)-(r6.len:Int)))) (Int.toNat (i64.wrap (((Int.toNat (i64.wrap ((p0.len:Int)+1)):Nat):Int)-(r6.len:Int)))) x3.t13 x3.o57 x3.o69) (L_ref1_NatDiv_2.mk (u64.wrap (x10.t15-1)) (u64.wrap (x10.t16+(u64.wrap x17)))) V9 x10 V9)) ∧
 ((decide (((u64.wrap (x10.t15*(u64.wrap x15))):Int)>(u64.wrap (BitVec.toNat ((BitVec.ofInt u64.bits (u64.wrap (x10.t16*2^(min (Int.toNat 32) (u64.bits))))) ||| (BitVec.ofInt u64.bits (u64.wrap x16)))))))=false →
 E1 (C_ref1_NatDiv_1.mk (i64.wrap ((i64.wrap (32*(p1.len:Int)))-r5)) r6 (r6.len:Int) (Int.toNat (i64.wrap (((Int.toNat (i64.wrap ((p0.len:Int)+1)):Nat):Int)-(r6.len:Int)))) (Int.toNat (i64.wrap (((Int.toNat (i64.wrap ((p0.len:Int)+1)):Nat):Int)-(r6.len:Int)))) x3.t13 x3.o57 x3.o69) (L_ref1_NatDiv_1.mk x10.t15) V9)))) ∧
 (∀(x8:L_ref1_NatDiv_1) (V8:View),View.le V7 V8→I1 (C_ref1_NatDiv_1.mk (i64.wrap ((i64.wrap (32*(p1.len:Int)))-r5)) r6 (r6.len:Int) (Int.toNat (i64.wrap (((Int.toNat (i64.wrap ((p0.len:Int)+1)):Nat):Int)-(r6.len:Int)))) (Int.toNat (i64.wrap (((Int.toNat (i64.wrap ((p0.len:Int)+1)):Nat):Int)-(r6.len:Int)))) x3.t13 x3.o57 x3.o69) x8 V8 →
 E3 (C_ref1_NatDiv_3.mk (i64.wrap ((i64.wrap (32*(p1.len:Int)))-r5)) r6 (r6.len:Int) (Int.toNat (i64.wrap (((Int.toNat (i64.wrap ((p0.len:Int)+1)):Nat):Int)-(r6.len:Int)))) (Int.toNat (i64.wrap (((Int.toNat (i64.wrap ((p0.len:Int)+1)):Nat):Int)-(r6.len:Int)))) x3.t13 x8.t15) (L_ref1_NatDiv_3.mk 0 0 0 x3.o57 x3.o69) V8 ∧
 (∀(x22:L_ref1_NatDiv_3) (V10:View),View.le V8 V10→I3 (C_ref1_NatDiv_3.mk (i64.wrap ((i64.wrap (32*(p1.len:Int)))-r5)) r6 (r6.len:Int) (Int.toNat (i64.wrap (((Int.toNat (i64.wrap ((p0.len:Int)+1)):Nat):Int)-(r6.len:Int)))) (Int.toNat (i64.wrap (((Int.toNat (i64.wrap ((p0.len:Int)+1)):Nat):Int)-(r6.len:Int)))) x3.t13 x8.t15) x22 V10 →
 ((decide ((x22.t19:Int)<(r6.len:Int)))=true →
 ((0:Int)≤x22.t19∧(x22.t19:Int)<(r6.len:Nat)∧Option.isSome r6.a=true) ∧
 ∃x23:Int,View.load V10 (Option.map (fun q=>Addr.add q (Int.toNat x22.t19*1)) r6.a)=some (.int .u32 x23) ∧
 ((0:Int)≤(i64.wrap (x22.t19+x3.t13))∧((i64.wrap (x22.t19+x3.t13)):Int)<(Int.toNat (i64.wrap ((p0.len:Int)+1)):Nat)) ∧
 ∃x24:Int,x22.o57[0+Int.toNat (i64.wrap (x22.t19+x3.t13))*1]?=some (.int .u32 x24) ∧
 ((0:Int)≤(i64.wrap (x22.t19+x3.t13))∧((i64.wrap (x22.t19+x3.t13)):Int)<(Int.toNat (i64.wrap ((p0.len:Int)+1)):Nat)) ∧
 0+Int.toNat (i64.wrap (x22.t19+x3.t13))*1+1≤List.length x22.o57 ∧
 B3 (C_ref1_NatDiv_3.mk (i64.wrap ((i64.wrap (32*(p1.len:Int)))-r5)) r6 (r6.len:Int) (Int.toNat (i64.wrap (((Int.toNat (i64.wrap ((p0.len:Int)+1)):Nat):Int)-(r6.len:Int)))) (Int.toNat (i64.wrap (((Int.toNat (i64.wrap ((p0.len:Int)+1)):Nat):Int)-(r6.len:Int)))) x3.t13 x8.t15) (L_ref1_NatDiv_3.mk (Int.fdiv (u64.wrap ((u64.wrap ((u64.wrap x24)-(u64.wrap (BitVec.toNat ((BitVec.ofInt u64.bits (u64.wrap ((u64.wrap (x8.t15*(u64.wrap x23)))+x22.t18))) &&& (BitVec.ofInt u64.bits 4294967295))))))-x22.t17)) (2^(min (Int.toNat 63) (u64.bits)))) (Int.fdiv (u64.wrap ((u64.wrap (x8.t15*(u64.wrap x23)))+x22.t18)) (2^(min (Int.toNat 32) (u64.bits)))) (i64.wrap (x22.t19+1)) (List.set x22.o57 (0+Int.toNat (i64.wrap (x22.t19+x3.t13))*1) (.int .u32 (u32.wrap (u64.wrap ((u64.wrap ((u64.wrap x24)-(u64.wrap (BitVec.toNat ((BitVec.ofInt u64.bits (u64.wrap ((u64.wrap (x8.t15*(u64.wrap x23)))+x22.t18))) &&& (BitVec.ofInt u64.bits 4294967295))))))-x22.t17))))) x22.o69) V10 x22 V10) ∧
 ((decide ((x22.t19:Int)<(r6.len:Int)))=false →
 ((0:Int)≤(i64.wrap (x3.t13+(r6.len:Int)))∧((i64.wrap (x3.t13+(r6.len:Int))):Int)<(Int.toNat (i64.wrap ((p0.len:Int)+1)):Nat)) ∧
 ∃x26:Int,x22.o57[0+Int.toNat (i64.wrap (x3.t13+(r6.len:Int)))*1]?=some (.int .u32 x26) ∧
 ((0:Int)≤(i64.wrap (x3.t13+(r6.len:Int)))∧((i64.wrap (x3.t13+(r6.len:Int))):Int)<(Int.toNat (i64.wrap ((p0.len:Int)+1)):Nat)) ∧
 0+Int.toNat (i64.wrap (x3.t13+(r6.len:Int)))*1+1≤List.length x22.o57 ∧
 ((((Int.fdiv (u64.wrap ((u64.wrap ((u64.wrap x26)-x22.t18))-x22.t17)) (2^(min (Int.toNat 63) (u64.bits)))):Int)==1)=true →
 E4 (C_ref1_NatDiv_4.mk (i64.wrap ((i64.wrap (32*(p1.len:Int)))-r5)) r6 (r6.len:Int) (Int.toNat (i64.wrap (((Int.toNat (i64.wrap ((p0.len:Int)+1)):Nat):Int)-(r6.len:Int)))) (Int.toNat (i64.wrap (((Int.toNat (i64.wrap ((p0.len:Int)+1)):Nat):Int)-(r6.len:Int)))) x3.t13 (u64.wrap (x8.t15-1))) (L_ref1_NatDiv_4.mk 0 0 (List.set x22.o57 (0+Int.toNat (i64.wrap (x3.t13+(r6.len:Int)))*1) (.int .u32 (u32.wrap (u64.wrap ((u64.wrap ((u64.wrap x26)-x22.t18))-x22.t17))))) x22.o69) V10 ∧
 (∀(x28:L_ref1_NatDiv_4) (V11:View),View.le V10 V11→I4 (C_ref1_NatDiv_4.mk (i64.wrap ((i64.wrap (32*(p1.len:Int)))-r5)) r6 (r6.len:Int) (Int.toNat (i64.wrap (((Int.toNat (i64.wrap ((p0.len:Int)+1)):Nat):Int)-(r6.len:Int)))) (Int.toNat (i64.wrap (((Int.toNat (i64.wrap ((p0.len:Int)+1)):Nat):Int)-(r6.len:Int)))) x3.t13 (u64.wrap (x8.t15-1))) x28 V11 →
 ((decide ((x28.t23:Int)<(r6.len:Int)))=true →
 ((0:Int)≤(i64.wrap (x28.t23+x3.t13))∧((i64.wrap (x28.t23+x3.t13)):Int)<(Int.toNat (i64.wrap ((p0.len:Int)+1)):Nat)) ∧
 ∃x29:Int,x28.o57[0+Int.toNat (i64.wrap (x28.t23+x3.t13))*1]?=some (.int .u32 x29) ∧
 ((0:Int)≤x28.t23∧(x28.t23:Int)<(r6.len:Nat)∧Option.isSome r6.a=true) ∧
 ∃x30:Int,View.load V11 (Option.map (fun q=>Addr.add q (Int.toNat x28.t23*1)) r6.a)=some (.int .u32 x30) ∧
 ((0:Int)≤(i64.wrap (x28.t23+x3.t13))∧((i64.wrap (x28.t23+x3.t13)):Int)<(Int.toNat (i64.wrap ((p0.len:Int)+1)):Nat)) ∧
 0+Int.toNat (i64.wrap (x28.t23+x3.t13))*1+1≤List.length x28.o57 ∧
 B4 (C_ref1_NatDiv_4.mk (i64.wrap ((i64.wrap (32*(p1.len:Int)))-r5)) r6 (r6.len:Int) (Int.toNat (i64.wrap (((Int.toNat (i64.wrap ((p0.len:Int)+1)):Nat):Int)-(r6.len:Int)))) (Int.toNat (i64.wrap (((Int.toNat (i64.wrap ((p0.len:Int)+1)):Nat):Int)-(r6.len:Int)))) x3.t13 (u64.wrap (x8.t15-1))) (L_ref1_NatDiv_4.mk (Int.fdiv (u64.wrap ((u64.wrap ((u64.wrap x29)+(u64.wrap x30)))+x28.t18)) (2^(min (Int.toNat 32) (u64.bits)))) (i64.wrap (x28.t23+1)) (List.set x28.o57 (0+Int.toNat (i64.wrap (x28.t23+x3.t13))*1) (.int .u32 (u32.wrap (u64.wrap ((u64.wrap ((u64.wrap x29)+(u64.wrap x30)))+x28.t18))))) x28.o69) V11 x28 V11) ∧
 ((decide ((x28.t23:Int)<(r6.len:Int)))=false →
 ((0:Int)≤(i64.wrap (x3.t13+(r6.len:Int)))∧((i64.wrap (x3.t13+(r6.len:Int))):Int)<(Int.toNat (i64.wrap ((p0.len:Int)+1)):Nat)) ∧
 ∃x32:Int,x28.o57[0+Int.toNat (i64.wrap (x3.t13+(r6.len:Int)))*1]?=some (.int .u32 x32) ∧
 ((0:Int)≤(i64.wrap (x3.t13+(r6.len:Int)))∧((i64.wrap (x3.t13+(r6.len:Int))):Int)<(Int.toNat (i64.wrap ((p0.len:Int)+1)):Nat)) ∧
 0+Int.toNat (i64.wrap (x3.t13+(r6.len:Int)))*1+1≤List.length x28.o57 ∧
 ((0:Int)≤x3.t13∧(x3.t13:Int)<(Int.toNat (i64.wrap (((Int.toNat (i64.wrap ((p0.len:Int)+1)):Nat):Int)-(r6.len:Int))):Nat)) ∧
 0+Int.toNat x3.t13*1+1≤List.length x28.o69 ∧
 B0 (C_ref1_NatDiv_0.mk (i64.wrap ((i64.wrap (32*(p1.len:Int)))-r5)) r6 (r6.len:Int) (Int.toNat (i64.wrap (((Int.toNat (i64.wrap ((p0.len:Int)+1)):Nat):Int)-(r6.len:Int)))) (Int.toNat (i64.wrap (((Int.toNat (i64.wrap ((p0.len:Int)+1)):Nat):Int)-(r6.len:Int))))) (L_ref1_NatDiv_0.mk (i64.wrap (x3.t13-1)) (List.set x28.o57 (0+Int.toNat (i64.wrap (x3.t13+(r6.len:Int)))*1) (.int .u32 (u32.wrap (x32+(u32.wrap x28.t18))))) (List.set x28.o69 (0+Int.toNat x3.t13*1) (.int .u32 (u32.wrap (u64.wrap (x8.t15-1)))))) V11 x3 V7))) ∧
 ((((Int.fdiv (u64.wrap ((u64.wrap ((u64.wrap x26)-x22.t18))-x22.t17)) (2^(min (Int.toNat 63) (u64.bits)))):Int)==1)=false →
 ((0:Int)≤x3.t13∧(x3.t13:Int)<(Int.toNat (i64.wrap (((Int.toNat (i64.wrap ((p0.len:Int)+1)):Nat):Int)-(r6.len:Int))):Nat)) ∧
 0+Int.toNat x3.t13*1+1≤List.length x22.o69 ∧
 B0 (C_ref1_NatDiv_0.mk (i64.wrap ((i64.wrap (32*(p1.len:Int)))-r5)) r6 (r6.len:Int) (Int.toNat (i64.wrap (((Int.toNat (i64.wrap ((p0.len:Int)+1)):Nat):Int)-(r6.len:Int)))) (Int.toNat (i64.wrap (((Int.toNat (i64.wrap ((p0.len:Int)+1)):Nat):Int)-(r6.len:Int))))) (L_ref1_NatDiv_0.mk (i64.wrap (x3.t13-1)) (List.set x22.o57 (0+Int.toNat (i64.wrap (x3.t13+(r6.len:Int)))*1) (.int .u32 (u32.wrap (u64.wrap ((u64.wrap ((u64.wrap x26)-x22.t18))-x22.t17))))) (List.set x22.o69 (0+Int.toNat x3.t13*1) (.int .u32 (u32.wrap x8.t15)))) V10 x3 V7))))) ∧
 ((decide ((x3.t13:Int)≥0))=false →
 ∀(b1:Nat) (V12:View),View.le V7 V12→V12 b1=some (List.toArray x3.o69) →
 ∀(b2:Nat) (V13:View),View.le V12 V13→V13 b2=some (List.toArray x3.o57) →
 ((0:Int)≤0∧(0:Int)≤(r6.len:Int)∧((r6.len:Int):Int)≤((Int.toNat (i64.wrap ((p0.len:Int)+1))):Nat)) ∧
 CallV Tryz.prog 348 #[(Sl.mk (some (Addr.mk b1 0 none)) (Int.toNat (i64.wrap (((Int.toNat (i64.wrap ((p0.len:Int)+1)):Nat):Int)-(r6.len:Int)))) (Int.toNat (i64.wrap (((Int.toNat (i64.wrap ((p0.len:Int)+1)):Nat):Int)-(r6.len:Int))))).v] V13 fun v V14=>∃r8:Sl,v=r8.v ∧
 CallV Tryz.prog 348 #[(Sl.mk (if(Int.toNat (i64.wrap ((p0.len:Int)+1)))=Int.toNat 0 then(some (Addr.mk b2 0 none))else Option.map (fun q=>Addr.add q (Int.toNat 0*1)) (some (Addr.mk b2 0 none))) (Int.toNat (r6.len:Int)-Int.toNat 0) ((Int.toNat (i64.wrap ((p0.len:Int)+1)))-Int.toNat 0)).v] V14 fun v V15=>∃r9:Sl,v=r9.v ∧
 CallV Tryz.prog 377 #[r9.v,.int .i64 (i64.wrap ((i64.wrap (32*(p1.len:Int)))-r5))] V15 fun v V16=>∃r10:Sl,v=r10.v ∧
 R (.tuple #[r8.v,r10.v]) V16))))
theorem ref1_NatDiv_v0 (p0:Sl) (p1:Sl) (V:View) (R:Value→View→Prop) (I0:C_ref1_NatDiv_0→L_ref1_NatDiv_0→View→Prop) (J0:C_ref1_NatDiv_0→L_ref1_NatDiv_0→View→Nat) (I1:C_ref1_NatDiv_1→L_ref1_NatDiv_1→View→Prop) (I2:C_ref1_NatDiv_2→L_ref1_NatDiv_2→View→Prop) (J2:C_ref1_NatDiv_2→L_ref1_NatDiv_2→View→Nat) (I3:C_ref1_NatDiv_3→L_ref1_NatDiv_3→View→Prop) (J3:C_ref1_NatDiv_3→L_ref1_NatDiv_3→View→Nat) (I4:C_ref1_NatDiv_4→L_ref1_NatDiv_4→View→Prop) (J4:C_ref1_NatDiv_4→L_ref1_NatDiv_4→View→Nat) {X:Prop} (e:ref1_NatDiv_sk p0 p1 V R I0 I1 I2 I3 I4 I0 (fun c w V x U=>I0 c w V∧J0 c w V<J0 c x U) I1 I2 (fun c w V x U=>I2 c w V∧J2 c w V<J2 c x U) I3 (fun c w V x U=>I3 c w V∧J3 c w V<J3 c x U) I4 (fun c w V x U=>I4 c w V∧J4 c w V<J4 c x U)=X) (h:X) :
 CallV Tryz.prog 343 #[p0.v,p1.v] V R :=
 calls_of_vc (Shp:=Shp) hmixed Tryz.func343 (c:=Tryz.f343.body.getD .skip) (args:=[p0.v,p1.v]) (by kernel_rfl)
 (.seq (.reg [A 4 2,A 5 2]) (.seq (.seq (.reg [A 25 2,A 26 2,A 27 10,A 28 0]) (.cond (.seq (.reg [A 29 2,A 4 2,A 5 2]) .leaf) .leaf)) (.seq (.seq (.reg [A 30 2,A 31 0,A 32 0]) (.cond (.seq (.reg [A 34 2,A 35 2,A 36 7,A 37 5,A 38 10,A 33 2,A 39 0,A 40 0,A 6 2,A 7 2]) (.seq (.reg [A 41 2,A 42 2,A 43 0,A 44 10,A 4 2,A 5 2]) .leaf)) .leaf)) (.seq (.reg [A 45 2,A 46 0,A 47 0,A 48 2,A 49 10,A 50 0,A 8 2]) (.seq (.reg [A 51 2,A 52 2,A 53 10,A 9 2]) (.seq (.reg [A 54 2,A 55 0,A 56 0,A 57 3,A 10 2]) (.seq (.reg [A 58 2,A 59 2,A 60 2,A 61 10,A 57 16]) (.seq (.reg [A 63 2,A 64 0,A 11 2]) (.seq (.reg [A 65 2,A 66 7,A 67 2,A 68 0,A 69 3,A 12 2]) (.seq (.seq (.reg [A 70 2,A 71 7,A 72 0,A 13 2]) (.block (.loop C_ref1_NatDiv_0 L_ref1_NatDiv_0 (fun σ=>C_ref1_NatDiv_0.mk (gInt (gTm σ 8)) (Sl.mk (gSlA (gTm σ 9)) (gSlL (gTm σ 9)) (gSlC (gTm σ 9))) (gInt (gTm σ 11)) (gLen (gTm σ 12)) (gCap (gTm σ 12))) (fun c x=>{ tm:=spT 262 0 [(8,.val (.int .i64 c.t8)),(9,.val (c.t9.v)),(10,.osl 57 0 (Int.toNat (i64.wrap ((p0.len:Int)+1))) (Int.toNat (i64.wrap ((p0.len:Int)+1)))),(11,.val (.int .i64 c.t11)),(12,.osl 69 0 c.t12l c.t12c),(13,.val (.int .i64 x.t13))],own:=spO 262 0 [(57,⟨200,.dyn x.o57⟩),(69,⟨200,.dyn x.o69⟩)] }) I0 J0 (.seq (.seq (.reg [A 73 2,A 74 0]) (.cond .leaf .leaf)) (.seq (.block (.seq (.draw [(0,A 77 2),(1,A 78 2),(2,A 79 2),(3,A 80 0),(4,A 81 7),(5,A 57 4),(6,A 83 0),(7,A 84 0),(8,A 85 2),(9,A 86 2),(10,A 87 2),(11,A 88 0),(12,A 89 0),(13,A 90 7),(14,A 57 4),(15,A 92 0),(16,A 93 0),(17,A 14 2)] [0,0,0,6,15,31,63,127,0,0,0,1536,3584,7936,16128,32512,65535,131071]) (.seq (.reg [A 94 2,A 95 2,A 96 2,A 97 0,A 98 7,A 99 5,A 100 0,A 101 12,A 15 2]) (.seq (.reg [A 102 2,A 103 2,A 104 2,A 105 0,A 106 7,A 107 5,A 108 0,A 109 12,A 16 2]) (.cut C_ref1_NatDiv_1 L_ref1_NatDiv_1 (fun σ=>C_ref1_NatDiv_1.mk (gInt (gTm σ 8)) (Sl.mk (gSlA (gTm σ 9)) (gSlL (gTm σ 9)) (gSlC (gTm σ 9))) (gInt (gTm σ 11)) (gLen (gTm σ 12)) (gCap (gTm σ 12)) (gInt (gTm σ 13)) (gDyn σ 57) (gDyn σ 69)) (fun c x=>{ tm:=spT 262 0 [(8,.val (.int .i64 c.t8)),(9,.val (c.t9.v)),(10,.osl 57 0 (Int.toNat (i64.wrap ((p0.len:Int)+1))) (Int.toNat (i64.wrap ((p0.len:Int)+1)))),(11,.val (.int .i64 c.t11)),(12,.osl 69 0 c.t12l c.t12c),(13,.val (.int .i64 c.t13)),(15,.val (.int .u64 x.t15))],own:=spO 262 0 [(57,⟨200,.dyn c.o57⟩),(69,⟨200,.dyn c.o69⟩)] }) I1 (.block (.loop C_ref1_NatDiv_2 L_ref1_NatDiv_2 (fun σ=>C_ref1_NatDiv_2.mk (gInt (gTm σ 8)) (Sl.mk (gSlA (gTm σ 9)) (gSlL (gTm σ 9)) (gSlC (gTm σ 9))) (gInt (gTm σ 11)) (gLen (gTm σ 12)) (gCap (gTm σ 12)) (gInt (gTm σ 13)) (gDyn σ 57) (gDyn σ 69)) (fun c x=>{ tm:=spT 262 0 [(8,.val (.int .i64 c.t8)),(9,.val (c.t9.v)),(10,.osl 57 0 (Int.toNat (i64.wrap ((p0.len:Int)+1))) (Int.toNat (i64.wrap ((p0.len:Int)+1)))),(11,.val (.int .i64 c.t11)),(12,.osl 69 0 c.t12l c.t12c),(13,.val (.int .i64 c.t13)),(15,.val (.int .u64 x.t15)),(16,.val (.int .u64 x.t16))],own:=spO 262 0 [(57,⟨200,.dyn c.o57⟩),(69,⟨200,.dyn c.o69⟩)] }) I2 J2 (.seq (.seq (.draw [(0,A 110 2),(1,A 111 0),(2,⟨112,2,true⟩),(3,A 113 2),(4,A 114 2),(5,A 115 2),(6,A 116 0),(7,A 117 7),(8,A 118 5),(9,A 119 0),(10,A 120 0),(11,A 121 2),(12,A 122 0),(13,A 123 2),(14,A 124 2),(15,A 125 2),(16,A 126 0),(17,A 127 0),(18,A 128 7),(19,A 57 4),(20,A 130 0),(21,A 131 0),(22,A 132 0),(23,A 133 2)] [0,1,3,7,7,7,39,119,247,503,1023,7,2055,7,7,7,49159,114695,253959,516103,1040391,2095111,4194303,8388607]) (.cond .leaf .leaf)) (.block (.seq (.reg [A 134 2,A 135 0,A 15 2]) (.seq (.reg [A 136 2,A 137 2,A 138 2,A 139 0,A 140 7,A 141 5,A 142 0,A 143 0,A 16 2]) (.seq (.reg [A 144 2,A 145 0]) (.cond .leaf .leaf)))))))) (.seq (.reg [A 17 2]) (.seq (.reg [A 18 2]) (.seq (.seq (.reg [A 19 2]) (.block (.loop C_ref1_NatDiv_3 L_ref1_NatDiv_3 (fun σ=>C_ref1_NatDiv_3.mk (gInt (gTm σ 8)) (Sl.mk (gSlA (gTm σ 9)) (gSlL (gTm σ 9)) (gSlC (gTm σ 9))) (gInt (gTm σ 11)) (gLen (gTm σ 12)) (gCap (gTm σ 12)) (gInt (gTm σ 13)) (gInt (gTm σ 15))) (fun c x=>{ tm:=spT 262 0 [(8,.val (.int .i64 c.t8)),(9,.val (c.t9.v)),(10,.osl 57 0 (Int.toNat (i64.wrap ((p0.len:Int)+1))) (Int.toNat (i64.wrap ((p0.len:Int)+1)))),(11,.val (.int .i64 c.t11)),(12,.osl 69 0 c.t12l c.t12c),(13,.val (.int .i64 c.t13)),(15,.val (.int .u64 c.t15)),(17,.val (.int .u64 x.t17)),(18,.val (.int .u64 x.t18)),(19,.val (.int .i64 x.t19))],own:=spO 262 0 [(57,⟨200,.dyn x.o57⟩),(69,⟨200,.dyn x.o69⟩)] }) I3 J3 (.seq (.seq (.reg [A 146 2,A 147 2,A 148 0]) (.cond .leaf .leaf)) (.seq (.block (.seq (.reg [A 151 2,A 152 2,A 153 2,A 154 7,A 155 5,A 156 0,A 157 0,A 158 2,A 159 0,A 20 2]) (.seq (.reg [A 160 2,A 161 0,A 18 2]) (.seq (.reg [A 162 2,A 163 2,A 164 2,A 165 0,A 166 7,A 57 4,A 168 0,A 169 2,A 170 0,A 171 0,A 172 2,A 173 0,A 21 2]) (.seq (.reg [A 174 2,A 175 2,A 176 2,A 177 0,A 178 2,A 179 0,A 180 7,A 57 6]) (.reg [A 181 2,A 182 0,A 17 2])))))) (.reg [A 149 2,A 150 0,A 19 2])))))) (.seq (.reg [A 183 2,A 184 2,A 185 2,A 186 0,A 187 7,A 57 4,A 189 0,A 190 2,A 191 0,A 192 2,A 193 0,A 22 2]) (.seq (.reg [A 194 2,A 195 2,A 196 2,A 197 0,A 198 2,A 199 0,A 200 7,A 57 6]) (.seq (.seq (.reg [A 201 2,A 202 0,A 203 0]) (.cond (.seq (.reg [A 204 2,A 205 0,A 15 2]) (.seq (.reg [A 18 2]) (.seq (.seq (.reg [A 23 2]) (.block (.loop C_ref1_NatDiv_4 L_ref1_NatDiv_4 (fun σ=>C_ref1_NatDiv_4.mk (gInt (gTm σ 8)) (Sl.mk (gSlA (gTm σ 9)) (gSlL (gTm σ 9)) (gSlC (gTm σ 9))) (gInt (gTm σ 11)) (gLen (gTm σ 12)) (gCap (gTm σ 12)) (gInt (gTm σ 13)) (gInt (gTm σ 15))) (fun c x=>{ tm:=spT 262 0 [(8,.val (.int .i64 c.t8)),(9,.val (c.t9.v)),(10,.osl 57 0 (Int.toNat (i64.wrap ((p0.len:Int)+1))) (Int.toNat (i64.wrap ((p0.len:Int)+1)))),(11,.val (.int .i64 c.t11)),(12,.osl 69 0 c.t12l c.t12c),(13,.val (.int .i64 c.t13)),(15,.val (.int .u64 c.t15)),(18,.val (.int .u64 x.t18)),(23,.val (.int .i64 x.t23))],own:=spO 262 0 [(57,⟨200,.dyn x.o57⟩),(69,⟨200,.dyn x.o69⟩)] }) I4 J4 (.seq (.seq (.reg [A 206 2,A 207 2,A 208 0]) (.cond .leaf .leaf)) (.seq (.block (.seq (.draw [(0,A 211 2),(1,A 212 2),(2,A 213 2),(3,A 214 0),(4,A 215 7),(5,A 57 4),(6,A 217 0),(7,A 218 2),(8,A 219 2),(9,A 220 7),(10,A 221 5),(11,A 222 0),(12,A 223 0),(13,A 224 2),(14,A 225 0),(15,A 24 2)] [0,0,0,6,15,31,63,0,0,384,896,1920,4095,0,16383,32767]) (.seq (.reg [A 226 2,A 227 2,A 228 2,A 229 0,A 230 2,A 231 0,A 232 7,A 57 6]) (.reg [A 233 2,A 234 0,A 18 2])))) (.reg [A 209 2,A 210 0,A 23 2])))))) (.reg [A 235 2,A 236 2,A 237 2,A 238 0,A 239 2,A 240 2,A 241 2,A 242 0,A 243 7,A 57 4,A 245 2,A 246 0,A 247 0,A 248 7,A 57 6])))) .leaf)) (.reg [A 249 2,A 250 2,A 251 2,A 252 0,A 253 7,A 69 6])))))))))))) (.reg [A 75 2,A 76 0,A 13 2])))))) (.seq (.pub 69 (.pub 57 (.draw [(0,A 254 2),(2,A 256 2),(3,A 257 2),(4,A 258 7),(6,A 260 2),(1,A 255 10),(5,A 259 10),(7,A 261 10),(8,A 4 2),(9,A 5 2)] [0,1,0,0,12,31,0,127,255,511]))) .leaf)))))))))))
 (Eq.mpr (by kernel_rfl) (show ref1_NatDiv_sk p0 p1 V R I0 I1 I2 I3 I4 (fun c w V=>∃x,ref1_NatDiv_f0 p0 c w x∧I0 c x V) (fun c w V y U=>∃x,ref1_NatDiv_f0 p0 c w x∧I0 c x V∧J0 c x V<J0 c y U) (fun c w V=>∃x,ref1_NatDiv_f1 p0 c w x∧I1 c x V) (fun c w V=>∃x,ref1_NatDiv_f2 p0 c w x∧I2 c x V) (fun c w V y U=>∃x,ref1_NatDiv_f2 p0 c w x∧I2 c x V∧J2 c x V<J2 c y U) (fun c w V=>∃x,ref1_NatDiv_f3 p0 c w x∧I3 c x V) (fun c w V y U=>∃x,ref1_NatDiv_f3 p0 c w x∧I3 c x V∧J3 c x V<J3 c y U) (fun c w V=>∃x,ref1_NatDiv_f4 p0 c w x∧I4 c x V) (fun c w V y U=>∃x,ref1_NatDiv_f4 p0 c w x∧I4 c x V∧J4 c x V<J4 c y U)from by
 have h:=Eq.mpr e h; unfold ref1_NatDiv_sk at h ⊢; have Ee0:=fun c w V (h:I0 c w V)=>(⟨w,⟨⟨rfl,rfl,rfl,rfl,rfl,rfl,trivial⟩,⟨rfl,rfl,trivial⟩⟩,h⟩:∃x,ref1_NatDiv_f0 p0 c w x∧I0 c x V); have Bb0:=fun c w V y U (h:I0 c w V∧J0 c w V<J0 c y U)=>(⟨w,⟨⟨rfl,rfl,rfl,rfl,rfl,rfl,trivial⟩,⟨rfl,rfl,trivial⟩⟩,h⟩:∃x,ref1_NatDiv_f0 p0 c w x∧I0 c x V∧J0 c x V<J0 c y U); have Ee1:=fun c w V (h:I1 c w V)=>(⟨w,⟨⟨rfl,rfl,rfl,rfl,rfl,rfl,rfl,trivial⟩,⟨rfl,rfl,trivial⟩⟩,h⟩:∃x,ref1_NatDiv_f1 p0 c w x∧I1 c x V); have Ee2:=fun c w V (h:I2 c w V)=>(⟨w,⟨⟨rfl,rfl,rfl,rfl,rfl,rfl,rfl,rfl,trivial⟩,⟨rfl,rfl,trivial⟩⟩,h⟩:∃x,ref1_NatDiv_f2 p0 c w x∧I2 c x V); have Bb2:=fun c w V y U (h:I2 c w V∧J2 c w V<J2 c y U)=>(⟨w,⟨⟨rfl,rfl,rfl,rfl,rfl,rfl,rfl,rfl,trivial⟩,⟨rfl,rfl,trivial⟩⟩,h⟩:∃x,ref1_NatDiv_f2 p0 c w x∧I2 c x V∧J2 c x V<J2 c y U); have Ee3:=fun c w V (h:I3 c w V)=>(⟨w,⟨⟨rfl,rfl,rfl,rfl,rfl,rfl,rfl,rfl,rfl,rfl,trivial⟩,⟨rfl,rfl,trivial⟩⟩,h⟩:∃x,ref1_NatDiv_f3 p0 c w x∧I3 c x V); have Bb3:=fun c w V y U (h:I3 c w V∧J3 c w V<J3 c y U)=>(⟨w,⟨⟨rfl,rfl,rfl,rfl,rfl,rfl,rfl,rfl,rfl,rfl,trivial⟩,⟨rfl,rfl,trivial⟩⟩,h⟩:∃x,ref1_NatDiv_f3 p0 c w x∧I3 c x V∧J3 c x V<J3 c y U); have Ee4:=fun c w V (h:I4 c w V)=>(⟨w,⟨⟨rfl,rfl,rfl,rfl,rfl,rfl,rfl,rfl,rfl,trivial⟩,⟨rfl,rfl,trivial⟩⟩,h⟩:∃x,ref1_NatDiv_f4 p0 c w x∧I4 c x V); have Bb4:=fun c w V y U (h:I4 c w V∧J4 c w V<J4 c y U)=>(⟨w,⟨⟨rfl,rfl,rfl,rfl,rfl,rfl,rfl,rfl,rfl,trivial⟩,⟨rfl,rfl,trivial⟩⟩,h⟩:∃x,ref1_NatDiv_f4 p0 c w x∧I4 c x V∧J4 c x V<J4 c y U); exact(CallV.mono h (fun _ _ _ ⟨r1,h79,h78⟩=>⟨r1,h79,⟨fun h77=>(h78.1 h77),fun h77=>⟨fun h76=>⟨((h78.2 h77).1 h76).1,(match ((h78.2 h77).1 h76).2 with|⟨x1,h6,h5⟩=>⟨x1,h6,(CallV.mono h5 (fun _ _ _ ⟨r2,r3,h4,h3⟩=>⟨r2,r3,h4,(CallV.mono h3 (fun _ _ _ ⟨r4,h2,h1⟩=>⟨r4,h2,h1⟩))⟩))⟩)⟩,fun h76=>(CallV.mono ((h78.2 h77).2 h76) (fun _ _ _ ⟨r5,h75,h74⟩=>⟨r5,h75,(CallV.mono h74 (fun _ _ _ ⟨r6,h73,h72⟩=>⟨r6,h73,⟨h72.1,(CallV.mono h72.2 (fun _ _ _ ⟨r7,h71,h70⟩=>⟨r7,h71,(match h70 with|⟨l1,h65,h66,h67,h68,h69,h64⟩=>⟨l1,h65,h66,h67,h68,h69,⟨h64.1,⟨(Ee0 _ _ _ h64.2.1),fun x3 V7 h62 h63=>⟨fun h61=>⟨((h64.2.2 x3 V7 h62 h63).1 h61).1,(match ((h64.2.2 x3 V7 h62 h63).1 h61).2 with|⟨x4,h50,h49⟩=>⟨x4,h50,⟨h49.1,(match h49.2 with|⟨x5,h48,h47⟩=>⟨x5,h48,⟨h47.1,(match h47.2 with|⟨x6,h46,h45⟩=>⟨x6,h46,⟨h45.1,⟨h45.2.1,(match h45.2.2 with|⟨x7,h44,h43⟩=>⟨x7,h44,⟨h43.1,⟨⟨(Ee2 _ _ _ h43.2.1.1),fun x10 V9 h20 h21=>⟨fun h19=>⟨fun h10=>⟨(((h43.2.1.2 x10 V9 h20 h21).1 h19).1 h10).1,(match (((h43.2.1.2 x10 V9 h20 h21).1 h19).1 h10).2 with|⟨x11,h9,h8⟩=>⟨x11,h9,⟨fun h7=>(Ee1 _ _ _ (h8.1 h7)),fun h7=>(Bb2 _ _ _ _ _ (h8.2 h7))⟩⟩)⟩,fun h10=>(Ee1 _ _ _ (((h43.2.1.2 x10 V9 h20 h21).1 h19).2 h10))⟩,fun h19=>⟨((h43.2.1.2 x10 V9 h20 h21).2 h19).1,(match ((h43.2.1.2 x10 V9 h20 h21).2 h19).2 with|⟨x15,h18,h17⟩=>⟨x15,h18,⟨h17.1,(match h17.2 with|⟨x16,h16,h15⟩=>⟨x16,h16,⟨fun h14=>⟨(h15.1 h14).1,(match (h15.1 h14).2 with|⟨x17,h13,h12⟩=>⟨x17,h13,⟨fun h11=>(Ee1 _ _ _ (h12.1 h11)),fun h11=>(Bb2 _ _ _ _ _ (h12.2 h11))⟩⟩)⟩,fun h14=>(Ee1 _ _ _ (h15.2 h14))⟩⟩)⟩⟩)⟩⟩⟩,fun x8 V8 h41 h42=>⟨(Ee3 _ _ _ (h43.2.2 x8 V8 h41 h42).1),fun x22 V10 h39 h40=>⟨fun h38=>⟨(((h43.2.2 x8 V8 h41 h42).2 x22 V10 h39 h40).1 h38).1,(match (((h43.2.2 x8 V8 h41 h42).2 x22 V10 h39 h40).1 h38).2 with|⟨x23,h25,h24⟩=>⟨x23,h25,⟨h24.1,(match h24.2 with|⟨x24,h23,h22⟩=>⟨x24,h23,⟨h22.1,⟨h22.2.1,(Bb3 _ _ _ _ _ h22.2.2)⟩⟩⟩)⟩⟩)⟩,fun h38=>⟨(((h43.2.2 x8 V8 h41 h42).2 x22 V10 h39 h40).2 h38).1,(match (((h43.2.2 x8 V8 h41 h42).2 x22 V10 h39 h40).2 h38).2 with|⟨x26,h37,h36⟩=>⟨x26,h37,⟨h36.1,⟨h36.2.1,⟨fun h35=>⟨(Ee4 _ _ _ (h36.2.2.1 h35).1),fun x28 V11 h33 h34=>⟨fun h32=>⟨(((h36.2.2.1 h35).2 x28 V11 h33 h34).1 h32).1,(match (((h36.2.2.1 h35).2 x28 V11 h33 h34).1 h32).2 with|⟨x29,h29,h28⟩=>⟨x29,h29,⟨h28.1,(match h28.2 with|⟨x30,h27,h26⟩=>⟨x30,h27,⟨h26.1,⟨h26.2.1,(Bb4 _ _ _ _ _ h26.2.2)⟩⟩⟩)⟩⟩)⟩,fun h32=>⟨(((h36.2.2.1 h35).2 x28 V11 h33 h34).2 h32).1,(match (((h36.2.2.1 h35).2 x28 V11 h33 h34).2 h32).2 with|⟨x32,h31,h30⟩=>⟨x32,h31,⟨h30.1,⟨h30.2.1,⟨h30.2.2.1,⟨h30.2.2.2.1,(Bb0 _ _ _ _ _ h30.2.2.2.2)⟩⟩⟩⟩⟩)⟩⟩⟩,fun h35=>⟨(h36.2.2.2 h35).1,⟨(h36.2.2.2 h35).2.1,(Bb0 _ _ _ _ _ (h36.2.2.2 h35).2.2)⟩⟩⟩⟩⟩⟩)⟩⟩⟩⟩⟩⟩)⟩⟩⟩)⟩⟩)⟩⟩)⟩,fun h61=>(fun b1 V12 h59 h60=>(fun b2 V13 h57 h58=>⟨((((h64.2.2 x3 V7 h62 h63).2 h61) b1 V12 h59 h60) b2 V13 h57 h58).1,(CallV.mono ((((h64.2.2 x3 V7 h62 h63).2 h61) b1 V12 h59 h60) b2 V13 h57 h58).2 (fun _ _ _ ⟨r8,h56,h55⟩=>⟨r8,h56,(CallV.mono h55 (fun _ _ _ ⟨r9,h54,h53⟩=>⟨r9,h54,(CallV.mono h53 (fun _ _ _ ⟨r10,h52,h51⟩=>⟨r10,h52,h51⟩))⟩))⟩))⟩))⟩⟩⟩⟩)⟩))⟩⟩))⟩))⟩⟩⟩))))
theorem ref1_NatDiv_vc:type_of% (fun p0 p1 V R I0 J0 I1 I2 J2 I3 J3 I4 J4=>ref1_NatDiv_v0 p0 p1 V R I0 J0 I1 I2 J2 I3 J3 I4 J4 (ref1_NatDiv_sk.eq_1 ..)):=fun p0 p1 V R I0 J0 I1 I2 J2 I3 J3 I4 J4=>ref1_NatDiv_v0 p0 p1 V R I0 J0 I1 I2 J2 I3 J3 I4 J4 (ref1_NatDiv_sk.eq_1 ..)
end Go.Proofs.YtfdaofhjkdabbaaGreat
