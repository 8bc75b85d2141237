/- Part of the proof; it has the parts FNat3. -/
import Derived.Test.YtfdaofhjkdabbaaGreatFNat2
set_option maxRecDepth 100000
set_option maxHeartbeats 4000000
namespace Go.Proofs.YtfdaofhjkdabbaaGreat
open Go Go.Vc Go.Proofs
open Go.IntKind (i8 i16 i32 i64 u8 u16 u32 u64)
structure L_nat_div_0 where
 t13:Int
 o55:List Value
 o65:List Value
structure C_nat_div_0 where
 t9:Int
 t10:Sl
structure L_nat_div_1 where
 t15:Int
structure C_nat_div_1 where
 t9:Int
 t10:Sl
 t13:Int
 o55:List Value
 o65:List Value
structure L_nat_div_2 where
 t15:Int
 t16:Int
structure C_nat_div_2 where
 t9:Int
 t10:Sl
 t13:Int
 o55:List Value
 o65:List Value
structure L_nat_div_3 where
 t17:Int
 t151:Int
 o55:List Value
 o65:List Value
structure C_nat_div_3 where
 t9:Int
 t10:Sl
 t13:Int
 t15:Int
 t149:Sl
 t150:Int
def nat_div_f0 (p0:Sl) (p1:Sl) (c:C_nat_div_0) (w x:L_nat_div_0):Prop:=(Q1 (.val (.int .i64 (p1.len:Int)))∧Q1 (.val (.int .i64 c.t9))∧Q1 (.val (c.t10.v))∧Q1 (.osl 55 0 (Int.toNat (i64.wrap ((p0.len:Int)+1))) (Int.toNat (i64.wrap ((p0.len:Int)+1))))∧Q1 (.osl 65 0 (Int.toNat (i64.wrap (((Int.toNat (i64.wrap ((p0.len:Int)+1)):Nat):Int)-(p1.len:Int)))) (Int.toNat (i64.wrap (((Int.toNat (i64.wrap ((p0.len:Int)+1)):Nat):Int)-(p1.len:Int)))))∧E2 (.val (.int .i64 w.t13)) (.val (.int .i64 x.t13))∧True)∧(O2 ⟨200,.dyn w.o55⟩ ⟨200,.dyn x.o55⟩∧O2 ⟨200,.dyn w.o65⟩ ⟨200,.dyn x.o65⟩∧True)
def nat_div_f1 (p0:Sl) (p1:Sl) (c:C_nat_div_1) (w x:L_nat_div_1):Prop:=(Q1 (.val (.int .i64 (p1.len:Int)))∧Q1 (.val (.int .i64 c.t9))∧Q1 (.val (c.t10.v))∧Q1 (.osl 55 0 (Int.toNat (i64.wrap ((p0.len:Int)+1))) (Int.toNat (i64.wrap ((p0.len:Int)+1))))∧Q1 (.osl 65 0 (Int.toNat (i64.wrap (((Int.toNat (i64.wrap ((p0.len:Int)+1)):Nat):Int)-(p1.len:Int)))) (Int.toNat (i64.wrap (((Int.toNat (i64.wrap ((p0.len:Int)+1)):Nat):Int)-(p1.len:Int)))))∧Q1 (.val (.int .i64 c.t13))∧E2 (.val (.int .u64 w.t15)) (.val (.int .u64 x.t15))∧True)∧(O2 ⟨200,.dyn c.o55⟩ ⟨200,.dyn c.o55⟩∧O2 ⟨200,.dyn c.o65⟩ ⟨200,.dyn c.o65⟩∧True)
def nat_div_f2 (p0:Sl) (p1:Sl) (c:C_nat_div_2) (w x:L_nat_div_2):Prop:=(Q1 (.val (.int .i64 (p1.len:Int)))∧Q1 (.val (.int .i64 c.t9))∧Q1 (.val (c.t10.v))∧Q1 (.osl 55 0 (Int.toNat (i64.wrap ((p0.len:Int)+1))) (Int.toNat (i64.wrap ((p0.len:Int)+1))))∧Q1 (.osl 65 0 (Int.toNat (i64.wrap (((Int.toNat (i64.wrap ((p0.len:Int)+1)):Nat):Int)-(p1.len:Int)))) (Int.toNat (i64.wrap (((Int.toNat (i64.wrap ((p0.len:Int)+1)):Nat):Int)-(p1.len:Int)))))∧Q1 (.val (.int .i64 c.t13))∧E2 (.val (.int .u64 w.t15)) (.val (.int .u64 x.t15))∧E2 (.val (.int .u64 w.t16)) (.val (.int .u64 x.t16))∧True)∧(O2 ⟨200,.dyn c.o55⟩ ⟨200,.dyn c.o55⟩∧O2 ⟨200,.dyn c.o65⟩ ⟨200,.dyn c.o65⟩∧True)
def nat_div_f3 (p0:Sl) (p1:Sl) (c:C_nat_div_3) (w x:L_nat_div_3):Prop:=(Q1 (.val (.int .i64 (p1.len:Int)))∧Q1 (.val (.int .i64 c.t9))∧Q1 (.val (c.t10.v))∧Q1 (.osl 55 0 (Int.toNat (i64.wrap ((p0.len:Int)+1))) (Int.toNat (i64.wrap ((p0.len:Int)+1))))∧Q1 (.osl 65 0 (Int.toNat (i64.wrap (((Int.toNat (i64.wrap ((p0.len:Int)+1)):Nat):Int)-(p1.len:Int)))) (Int.toNat (i64.wrap (((Int.toNat (i64.wrap ((p0.len:Int)+1)):Nat):Int)-(p1.len:Int)))))∧Q1 (.val (.int .i64 c.t13))∧Q1 (.val (.int .u64 c.t15))∧E2 (.val (.int .u64 w.t17)) (.val (.int .u64 x.t17))∧Q1 (.val (c.t149.v))∧Q1 (.val (.int .i64 c.t150))∧E2 (.val (.int .i64 w.t151)) (.val (.int .i64 x.t151))∧True)∧(O2 ⟨200,.dyn w.o55⟩ ⟨200,.dyn x.o55⟩∧O2 ⟨200,.dyn w.o65⟩ ⟨200,.dyn x.o65⟩∧True)
def nat_div_sk (p0:Sl) (p1:Sl) (V:View) (R:Value→View→Prop) (I0:C_nat_div_0→L_nat_div_0→View→Prop) (I1:C_nat_div_1→L_nat_div_1→View→Prop) (I2:C_nat_div_2→L_nat_div_2→View→Prop) (I3:C_nat_div_3→L_nat_div_3→View→Prop) (E0:C_nat_div_0→L_nat_div_0→View→Prop) (B0:C_nat_div_0→L_nat_div_0→View→L_nat_div_0→View→Prop) (E1:C_nat_div_1→L_nat_div_1→View→Prop) (E2:C_nat_div_2→L_nat_div_2→View→Prop) (B2:C_nat_div_2→L_nat_div_2→View→L_nat_div_2→View→Prop) (E3:C_nat_div_3→L_nat_div_3→View→Prop) (B3:C_nat_div_3→L_nat_div_3→View→L_nat_div_3→View→Prop):Prop :=
 CallV Tryz.prog 280 #[p0.v,p1.v] V fun v V1=>∃r1:Int,v = .int .i64 r1 ∧
 ((decide ((r1:Int)<0))=true →
 R (.tuple #[(Sl.mk none 0 0).v,p0.v]) V1) ∧
 ((decide ((r1:Int)<0))=false →
 ((((p1.len:Int):Int)==1)=true →
 ((0:Int)≤0∧(0:Int)<(p1.len:Nat)∧Option.isSome p1.a=true) ∧
 ∃x1:Int,View.load V1 (Option.map (fun q=>Addr.add q (Int.toNat 0*1)) p1.a)=some (.int .u32 x1) ∧
 CallV Tryz.prog 379 #[p0.v,.int .u32 x1] V1 fun v V2=>∃(r2:Sl) (r3:Int),v = .tuple #[r2.v,.int .u32 r3] ∧
 CallV Tryz.prog 279 #[.int .u64 (u64.wrap r3)] V2 fun v V3=>∃r4:Sl,v=r4.v ∧
 R (.tuple #[r2.v,r4.v]) V3) ∧
 ((((p1.len:Int):Int)==1)=false →
 ((0:Int)≤(i64.wrap ((p1.len:Int)-1))∧((i64.wrap ((p1.len:Int)-1)):Int)<(p1.len:Nat)∧Option.isSome p1.a=true) ∧
 ∃x2:Int,View.load V1 (Option.map (fun q=>Addr.add q (Int.toNat (i64.wrap ((p1.len:Int)-1))*1)) p1.a)=some (.int .u32 x2) ∧
 CallV Tryz.prog 391 #[.int .u32 x2] V1 fun v V4=>∃r5:Int,v = .int .i64 r5 ∧
 CallV Tryz.prog 392 #[p1.v,.int .i64 r5] V4 fun v V5=>∃r6:Sl,v=r6.v ∧
 ((0:Int)≤(i64.wrap ((p0.len:Int)+1))∧((i64.wrap ((p0.len:Int)+1)):Int)≤(i64.wrap ((p0.len:Int)+1))∧(4:Int)*(i64.wrap ((p0.len:Int)+1))≤281474976710656∧((i64.wrap ((p0.len:Int)+1)):Int)≤9223372036854775807) ∧
 CallV Tryz.prog 392 #[p0.v,.int .i64 r5] V5 fun v V6=>∃r7:Sl,v=r7.v ∧
 ∃l1:List Value,View.has V6 r7.a l1∧List.length l1=(min r7.len (Int.toNat (i64.wrap ((p0.len:Int)+1))))*1∧(l1=[]∨Option.isSome r7.a=true)∧(∀v∈l1,Value.oneCell' v=true)∧0+List.length l1≤List.length ((List.replicate (Int.toNat (i64.wrap ((p0.len:Int)+1))) [Value.int .u32 0]).flatten) ∧
 ((0:Int)≤(i64.wrap (((Int.toNat (i64.wrap ((p0.len:Int)+1)):Nat):Int)-(p1.len:Int)))∧((i64.wrap (((Int.toNat (i64.wrap ((p0.len:Int)+1)):Nat):Int)-(p1.len:Int))):Int)≤(i64.wrap (((Int.toNat (i64.wrap ((p0.len:Int)+1)):Nat):Int)-(p1.len:Int)))∧(4:Int)*(i64.wrap (((Int.toNat (i64.wrap ((p0.len:Int)+1)):Nat):Int)-(p1.len:Int)))≤281474976710656∧((i64.wrap (((Int.toNat (i64.wrap ((p0.len:Int)+1)):Nat):Int)-(p1.len:Int))):Int)≤9223372036854775807) ∧
 E0 (C_nat_div_0.mk r5 r6) (L_nat_div_0.mk (i64.wrap (((Int.toNat (i64.wrap (((Int.toNat (i64.wrap ((p0.len:Int)+1)):Nat):Int)-(p1.len:Int))):Nat):Int)-1)) (setL ((List.replicate (Int.toNat (i64.wrap ((p0.len:Int)+1))) [Value.int .u32 0]).flatten) 0 l1) ((List.replicate (Int.toNat (i64.wrap (((Int.toNat (i64.wrap ((p0.len:Int)+1)):Nat):Int)-(p1.len:Int)))) [Value.int .u32 0]).flatten)) V6 ∧
 (∀(x4:L_nat_div_0) (V7:View),View.le V6 V7→I0 (C_nat_div_0.mk r5 r6) x4 V7 →
 ((decide ((x4.t13:Int)≥0))=true →
 ((0:Int)≤(i64.wrap (x4.t13+(p1.len:Int)))∧((i64.wrap (x4.t13+(p1.len:Int))):Int)<(Int.toNat (i64.wrap ((p0.len:Int)+1)):Nat)) ∧
 ∃x5:Int,x4.o55[0+Int.toNat (i64.wrap (x4.t13+(p1.len:Int)))*1]?=some (.int .u32 x5) ∧
 ((0:Int)≤(i64.wrap ((i64.wrap (x4.t13+(p1.len:Int)))-1))∧((i64.wrap ((i64.wrap (x4.t13+(p1.len:Int)))-1)):Int)<(Int.toNat (i64.wrap ((p0.len:Int)+1)):Nat)) ∧
 ∃x6:Int,x4.o55[0+Int.toNat (i64.wrap ((i64.wrap (x4.t13+(p1.len:Int)))-1))*1]?=some (.int .u32 x6) ∧
 ((0:Int)≤(i64.wrap ((p1.len:Int)-1))∧((i64.wrap ((p1.len:Int)-1)):Int)<(r6.len:Nat)∧Option.isSome r6.a=true) ∧
 ∃x7:Int,View.load V7 (Option.map (fun q=>Addr.add q (Int.toNat (i64.wrap ((p1.len:Int)-1))*1)) r6.a)=some (.int .u32 x7) ∧
 ((u64.wrap x7):Int)≠0 ∧
 ((0:Int)≤(i64.wrap ((p1.len:Int)-1))∧((i64.wrap ((p1.len:Int)-1)):Int)<(r6.len:Nat)∧Option.isSome r6.a=true) ∧
 ∃x8:Int,View.load V7 (Option.map (fun q=>Addr.add q (Int.toNat (i64.wrap ((p1.len:Int)-1))*1)) r6.a)=some (.int .u32 x8) ∧
 ((u64.wrap x8):Int)≠0 ∧
 (E2 (C_nat_div_2.mk r5 r6 x4.t13 x4.o55 x4.o65) (L_nat_div_2.mk (u64.wrap (Int.tdiv (u64.wrap (BitVec.toNat ((BitVec.ofInt u64.bits (u64.wrap ((u64.wrap x5)*2^(min (Int.toNat 32) (u64.bits))))) ||| (BitVec.ofInt u64.bits (u64.wrap x6))))) (u64.wrap x7))) (Int.tmod (u64.wrap (BitVec.toNat ((BitVec.ofInt u64.bits (u64.wrap ((u64.wrap x5)*2^(min (Int.toNat 32) (u64.bits))))) ||| (BitVec.ofInt u64.bits (u64.wrap x6))))) (u64.wrap x8))) V7 ∧
 (∀(x11:L_nat_div_2) (V9:View),View.le V7 V9→I2 (C_nat_div_2.mk r5 r6 x4.t13 x4.o55 x4.o65) x11 V9 →
 ((decide ((x11.t15:Int)≥4294967296))=true →
 (true=true →
 ((0:Int)≤(i64.wrap ((p1.len:Int)-1))∧((i64.wrap ((p1.len:Int)-1)):Int)<(r6.len:Nat)∧Option.isSome r6.a=true) ∧
 ∃x12:Int,View.load V9 (Option.map (fun q=>Addr.add q (Int.toNat (i64.wrap ((p1.len:Int)-1))*1)) r6.a)=some (.int .u32 x12) ∧
 ((decide (((u64.wrap (x11.t16+(u64.wrap x12))):Int)≥4294967296))=true →
 E1 (C_nat_div_1.mk r5 r6 x4.t13 x4.o55 x4.o65) (L_nat_div_1.mk (u64.wrap (x11.t15-1))) V9) ∧
 ((decide (((u64.wrap (x11.t16+(u64.wrap x12))):Int)≥4294967296))=false →
 B2 (C_nat_div_2.mk r5 r6 x4.t13 x4.o55 x4.o65) (L_nat_div_2.mk (u64.wrap (x11.t15-1)) (u64.wrap (x11.t16+(u64.wrap x12)))) V9 x11 V9)) ∧
 (true=false →
 E1 (C_nat_div_1.mk r5 r6 x4.t13 x4.o55 x4.o65) (L_nat_div_1.mk x11.t15) V9)) ∧
 ((decide ((x11.t15:Int)≥4294967296))=false →
 ((0:Int)≤(i64.wrap ((p1.len:Int)-2))∧((i64.wrap ((p1.len:Int)-2)):Int)<(r6.len:Nat)∧Option.isSome r6.a=true) ∧
 ∃x16:Int,View.load V9 (Option.map (fun q=>Addr.add q (Int.toNat (i64.wrap ((p1.len:Int)-2))*1)) r6.a)=some (.int .u32 x16) ∧
 ((0:Int)≤(i64.wrap ((i64.wrap (x4.t13+(p1.len:Int)))-2))∧((i64.wrap ((i64.wrap (x4.t13+(p1.len:Int)))-2)):Int)<(Int.toNat (i64.wrap ((p0.len:Int)+1)):Nat)) ∧
 ∃x17:Int,x4.o55[0+Int.toNat (i64.wrap ((i64.wrap (x4.t13+(p1.len:Int)))-2))*1]?=some (.int .u32 x17) ∧
 ((decide (((u64.wrap (x11.t15*(u64.wrap x16))):Int)>(u64.wrap (BitVec.toNat ((BitVec.ofInt u64.bits (u64.wrap (x11.t16*2^(min (Int.toNat 32) (u64.bits))))) ||| (BitVec.ofInt u64.bits (u64.wrap x17)))))))=true →
 ((0:Int)≤(i64.wrap ((p1.len:Int)-1))∧((i64.wrap ((p1.len:Int)-1)):Int)<(r6.len:Nat)∧Option.isSome r6.a=true) ∧
 ∃x18:Int,View.load V9 (Option.map (fun q=>Addr.add q (Int.toNat (i64.wrap ((p1.len:Int)-1))*1)) r6.a)=some (.int .u32 x18) ∧
 ((decide (((u64.wrap (x11.t16+(u64.wrap x18))):Int)≥4294967296))=true →
 E1 (C_nat_div_1.mk r5 r6 x4.t13 x4.o55 x4.o65) (L_nat_div_1.mk (u64.wrap (x11.t15-1))) V9) ∧
 ((decide (((u64.wrap (x11.t16+(u64.wrap x18))):Int)≥4294967296))=false →
 B2 (C_nat_div_2.mk r5 r6 x4.t13 x4.o55 x4.o65) (L_nat_div_2.mk (u64.wrap (x11.t15-1)) (u64.wrap (x11.t16+(u64.wrap x18)))) V9 x11 V9)) ∧
 ((decide (((u64.wrap (x11.t15*(u64.wrap x16))):Int)>(u64.wrap (BitVec.toNat ((BitVec.ofInt u64.bits (u64.wrap (x11.t16*2^(min (Int.toNat 32) (u64.bits))))) ||| (BitVec.ofInt u64.bits (u64.wrap x17)))))))=false →
 E1 (C_nat_div_1.mk r5 r6 x4.t13 x4.o55 x4.o65) (L_nat_div_1.mk x11.t15) V9)))) ∧
 (∀(x9:L_nat_div_1) (V8:View),View.le V7 V8→I1 (C_nat_div_1.mk r5 r6 x4.t13 x4.o55 x4.o65) x9 V8 →
 CallD Tryz.prog 393 (fun b=>(Value.slice (some ⟨b,0,none⟩) (Int.toNat (i64.wrap ((p0.len:Int)+1))) (Int.toNat (i64.wrap ((p0.len:Int)+1)))::[r6.v,Value.int .u64 x9.t15,Value.int .i64 x4.t13]:List Value)) 200 x4.o55 V8 fun v l2 V10=>∃r8:Bool,v = .bool r8 ∧
 (r8=true →
 E3 (C_nat_div_3.mk r5 r6 x4.t13 (u64.wrap (x9.t15-1)) r6 (r6.len:Int)) (L_nat_div_3.mk 0 0 l2 x4.o65) V10 ∧
 (∀(x23:L_nat_div_3) (V11:View),View.le V10 V11→I3 (C_nat_div_3.mk r5 r6 x4.t13 (u64.wrap (x9.t15-1)) r6 (r6.len:Int)) x23 V11 →
 ((decide ((x23.t151:Int)<(r6.len:Int)))=true →
 ((0:Int)≤x23.t151∧(x23.t151:Int)<(r6.len:Nat)∧Option.isSome r6.a=true) ∧
 ∃x24:Int,View.load V11 (Option.map (fun q=>Addr.add q (Int.toNat x23.t151*1)) r6.a)=some (.int .u32 x24) ∧
 ((0:Int)≤(i64.wrap (x23.t151+x4.t13))∧((i64.wrap (x23.t151+x4.t13)):Int)<(Int.toNat (i64.wrap ((p0.len:Int)+1)):Nat)) ∧
 ∃x25:Int,x23.o55[0+Int.toNat (i64.wrap (x23.t151+x4.t13))*1]?=some (.int .u32 x25) ∧
 ((0:Int)≤(i64.wrap (x23.t151+x4.t13))∧((i64.wrap (x23.t151+x4.t13)):Int)<(Int.toNat (i64.wrap ((p0.len:Int)+1)):Nat)) ∧
 0+Int.toNat (i64.wrap (x23.t151+x4.t13))*1+1≤List.length x23.o55 ∧
 B3 (C_nat_div_3.mk r5 r6 x4.t13 (u64.wrap (x9.t15-1)) r6 (r6.len:Int)) (L_nat_div_3.mk (Int.fdiv (u64.wrap (x23.t17+(u64.wrap ((u64.wrap x25)+(u64.wrap x24))))) (2^(min (Int.toNat 32) (u64.bits)))) (i64.wrap (x23.t151+1)) (List.set x23.o55 (0+Int.toNat (i64.wrap (x23.t151+x4.t13))*1) (.int .u32 (u32.wrap (u64.wrap (x23.t17+(u64.wrap ((u64.wrap x25)+(u64.wrap x24)))))))) x23.o65) V11 x23 V11) ∧
 ((decide ((x23.t151:Int)<(r6.len:Int)))=false →
 ((0:Int)≤(i64.wrap (x4.t13+(p1.len:Int)))∧((i64.wrap (x4.t13+(p1.len:Int))):Int)<(Int.toNat (i64.wrap ((p0.len:Int)+1)):Nat)) ∧
 ∃x27:Int,x23.o55[0+Int.toNat (i64.wrap (x4.t13+(p1.len:Int)))*1]?=some (.int .u32 x27) ∧
 ((0:Int)≤(i64.wrap (x4.t13+(p1.len:Int)))∧((i64.wrap (x4.t13+(p1.len:Int))):Int)<(Int.toNat (i64.wrap ((p0.len:Int)+1)):Nat)) ∧
 0+Int.toNat (i64.wrap (x4.t13+(p1.len:Int)))*1+1≤List.length x23.o55 ∧
 ((0:Int)≤x4.t13∧(x4.t13:Int)<(Int.toNat (i64.wrap (((Int.toNat (i64.wrap ((p0.len:Int)+1)):Nat):Int)-(p1.len:Int))):Nat)) ∧
 0+Int.toNat x4.t13*1+1≤List.length x23.o65 ∧
 B0 (C_nat_div_0.mk r5 r6) (L_nat_div_0.mk (i64.wrap (x4.t13-1)) (List.set x23.o55 (0+Int.toNat (i64.wrap (x4.t13+(p1.len:Int)))*1) (.int .u32 (u32.wrap (x27+(u32.wrap x23.t17))))) (List.set x23.o65 (0+Int.toNat x4.t13*1) (.int .u32 (u32.wrap (u64.wrap (x9.t15-1)))))) V11 x4 V7))) ∧
 (r8=false →
 ((0:Int)≤x4.t13∧(x4.t13:Int)<(Int.toNat (i64.wrap (((Int.toNat (i64.wrap ((p0.len:Int)+1)):Nat):Int)-(p1.len:Int))):Nat)) ∧
 0+Int.toNat x4.t13*1+1≤List.length x4.o65 ∧
 B0 (C_nat_div_0.mk r5 r6) (L_nat_div_0.mk (i64.wrap (x4.t13-1)) l2 (List.set x4.o65 (0+Int.toNat x4.t13*1) (.int .u32 (u32.wrap x9.t15)))) V10 x4 V7))) ∧
 ((decide ((x4.t13:Int)≥0))=false →
 ∀(b1:Nat) (V12:View),View.le V7 V12→V12 b1=some (List.toArray x4.o65) →
 ∀(b2:Nat) (V13:View),View.le V12 V13→V13 b2=some (List.toArray x4.o55) →
 ((0:Int)≤0∧(0:Int)≤(p1.len:Int)∧((p1.len:Int):Int)≤((Int.toNat (i64.wrap ((p0.len:Int)+1))):Nat)) ∧
 CallV Tryz.prog 356 #[(Sl.mk (some (Addr.mk b1 0 none)) (Int.toNat (i64.wrap (((Int.toNat (i64.wrap ((p0.len:Int)+1)):Nat):Int)-(p1.len:Int)))) (Int.toNat (i64.wrap (((Int.toNat (i64.wrap ((p0.len:Int)+1)):Nat):Int)-(p1.len:Int))))).v] V13 fun v V14=>∃r9:Sl,v=r9.v ∧
 CallV Tryz.prog 356 #[(Sl.mk (if(Int.toNat (i64.wrap ((p0.len:Int)+1)))=Int.toNat 0 then(some (Addr.mk b2 0 none))else Option.map (fun q=>Addr.add q (Int.toNat 0*1)) (some (Addr.mk b2 0 none))) (Int.toNat (p1.len:Int)-Int.toNat 0) ((Int.toNat (i64.wrap ((p0.len:Int)+1)))-Int.toNat 0)).v] V14 fun v V15=>∃r10:Sl,v=r10.v ∧
 CallV Tryz.prog 394 #[r10.v,.int .i64 r5] V15 fun v V16=>∃r11:Sl,v=r11.v ∧
 R (.tuple #[r9.v,r11.v]) V16))))
theorem nat_div_v0 (p0:Sl) (p1:Sl) (V:View) (R:Value→View→Prop) (I0:C_nat_div_0→L_nat_div_0→View→Prop) (J0:C_nat_div_0→L_nat_div_0→View→Nat) (I1:C_nat_div_1→L_nat_div_1→View→Prop) (I2:C_nat_div_2→L_nat_div_2→View→Prop) (J2:C_nat_div_2→L_nat_div_2→View→Nat) (I3:C_nat_div_3→L_nat_div_3→View→Prop) (J3:C_nat_div_3→L_nat_div_3→View→Nat) {X:Prop} (e:nat_div_sk p0 p1 V R I0 I1 I2 I3 I0 (fun c w V x U=>I0 c w V∧J0 c w V<J0 c x U) I1 I2 (fun c w V x U=>I2 c w V∧J2 c w V<J2 c x U) I3 (fun c w V x U=>I3 c w V∧J3 c w V<J3 c x U)=X) (h:X) :
 CallV Tryz.prog 353 #[p0.v,p1.v] V R :=
 calls_of_vc (Shp:=Shp) hmixed Tryz.func353 (c:=Tryz.f353.body.getD .skip) (args:=[p0.v,p1.v]) (by kernel_rfl)
 (.seq (.reg [A 4 2,A 5 2]) (.seq (.seq (.reg [A 20 2,A 21 2,A 22 10,A 23 0]) (.cond (.seq (.reg [A 24 2,A 4 2,A 5 2]) .leaf) .leaf)) (.seq (.seq (.reg [A 25 2,A 26 0,A 27 0]) (.cond (.seq (.reg [A 29 2,A 30 2,A 31 7,A 32 5,A 33 10,A 28 2,A 34 0,A 35 0,A 6 2,A 7 2]) (.seq (.reg [A 36 2,A 37 2,A 38 0,A 39 10,A 4 2,A 5 2]) .leaf)) .leaf)) (.seq (.reg [A 40 2,A 41 0,A 42 2,A 43 2,A 44 0,A 45 0,A 46 7,A 47 5,A 48 10,A 8 2,A 9 2]) (.seq (.reg [A 49 2,A 50 2,A 51 10,A 10 2]) (.seq (.reg [A 52 2,A 53 0,A 54 0,A 55 3,A 11 2]) (.seq (.reg [A 56 2,A 57 2,A 58 2,A 59 10,A 55 16]) (.seq (.reg [A 61 2,A 62 7,A 63 2,A 64 0,A 65 3,A 12 2]) (.seq (.seq (.reg [A 66 2,A 67 7,A 68 0,A 13 2]) (.block (.loop C_nat_div_0 L_nat_div_0 (fun σ=>C_nat_div_0.mk (gInt (gTm σ 9)) (Sl.mk (gSlA (gTm σ 10)) (gSlL (gTm σ 10)) (gSlC (gTm σ 10)))) (fun c x=>{ tm:=spT 201 0 [(8,.val (.int .i64 (p1.len:Int))),(9,.val (.int .i64 c.t9)),(10,.val (c.t10.v)),(11,.osl 55 0 (Int.toNat (i64.wrap ((p0.len:Int)+1))) (Int.toNat (i64.wrap ((p0.len:Int)+1)))),(12,.osl 65 0 (Int.toNat (i64.wrap (((Int.toNat (i64.wrap ((p0.len:Int)+1)):Nat):Int)-(p1.len:Int)))) (Int.toNat (i64.wrap (((Int.toNat (i64.wrap ((p0.len:Int)+1)):Nat):Int)-(p1.len:Int))))),(13,.val (.int .i64 x.t13))],own:=spO 201 0 [(55,⟨200,.dyn x.o55⟩),(65,⟨200,.dyn x.o65⟩)] }) I0 J0 (.seq (.seq (.reg [A 69 2,A 70 0]) (.cond .leaf .leaf)) (.seq (.block (.seq (.draw [(0,A 73 2),(1,A 74 2),(2,A 75 2),(3,A 76 0),(4,A 77 7),(5,A 55 4),(6,A 79 0),(7,A 80 0),(8,A 81 2),(9,A 82 2),(10,A 83 2),(11,A 84 0),(12,A 85 0),(13,A 86 7),(14,A 55 4),(15,A 88 0),(16,A 89 0),(17,A 14 2)] [0,0,0,6,15,31,63,127,0,0,0,1536,3584,7936,16128,32512,65535,131071]) (.seq (.draw [(0,A 90 2),(1,A 91 2),(2,A 92 2),(3,A 93 0),(4,A 94 7),(5,A 95 5),(6,A 96 0),(7,A 97 12),(8,A 98 2),(9,A 99 2),(10,A 100 2),(11,A 101 0),(12,A 102 7),(13,A 103 5),(14,A 104 0),(15,A 105 12),(16,A 15 2),(17,A 16 2)] [0,0,0,4,14,30,62,127,0,0,0,1024,3584,7680,15872,32512,255,131071]) (.cut C_nat_div_1 L_nat_div_1 (fun σ=>C_nat_div_1.mk (gInt (gTm σ 9)) (Sl.mk (gSlA (gTm σ 10)) (gSlL (gTm σ 10)) (gSlC (gTm σ 10))) (gInt (gTm σ 13)) (gDyn σ 55) (gDyn σ 65)) (fun c x=>{ tm:=spT 201 0 [(8,.val (.int .i64 (p1.len:Int))),(9,.val (.int .i64 c.t9)),(10,.val (c.t10.v)),(11,.osl 55 0 (Int.toNat (i64.wrap ((p0.len:Int)+1))) (Int.toNat (i64.wrap ((p0.len:Int)+1)))),(12,.osl 65 0 (Int.toNat (i64.wrap (((Int.toNat (i64.wrap ((p0.len:Int)+1)):Nat):Int)-(p1.len:Int)))) (Int.toNat (i64.wrap (((Int.toNat (i64.wrap ((p0.len:Int)+1)):Nat):Int)-(p1.len:Int))))),(13,.val (.int .i64 c.t13)),(15,.val (.int .u64 x.t15))],own:=spO 201 0 [(55,⟨200,.dyn c.o55⟩),(65,⟨200,.dyn c.o65⟩)] }) I1 (.block (.loop C_nat_div_2 L_nat_div_2 (fun σ=>C_nat_div_2.mk (gInt (gTm σ 9)) (Sl.mk (gSlA (gTm σ 10)) (gSlL (gTm σ 10)) (gSlC (gTm σ 10))) (gInt (gTm σ 13)) (gDyn σ 55) (gDyn σ 65)) (fun c x=>{ tm:=spT 201 0 [(8,.val (.int .i64 (p1.len:Int))),(9,.val (.int .i64 c.t9)),(10,.val (c.t10.v)),(11,.osl 55 0 (Int.toNat (i64.wrap ((p0.len:Int)+1))) (Int.toNat (i64.wrap ((p0.len:Int)+1)))),(12,.osl 65 0 (Int.toNat (i64.wrap (((Int.toNat (i64.wrap ((p0.len:Int)+1)):Nat):Int)-(p1.len:Int)))) (Int.toNat (i64.wrap (((Int.toNat (i64.wrap ((p0.len:Int)+1)):Nat):Int)-(p1.len:Int))))),(13,.val (.int .i64 c.t13)),(15,.val (.int .u64 x.t15)),(16,.val (.int .u64 x.t16))],own:=spO 201 0 [(55,⟨200,.dyn c.o55⟩),(65,⟨200,.dyn c.o65⟩)] }) I2 J2 (.seq (.seq (.draw [(0,A 106 2),(1,A 107 0),(2,⟨108,2,true⟩),(3,A 109 2),(4,A 110 2),(5,A 111 2),(6,A 112 0),(7,A 113 7),(8,A 114 5),(9,A 115 0),(10,A 116 0),(11,A 117 2),(12,A 118 0),(13,A 119 2),(14,A 120 2),(15,A 121 2),(16,A 122 0),(17,A 123 0),(18,A 124 7),(19,A 55 4),(20,A 126 0),(21,A 127 0),(22,A 128 0),(23,A 129 2)] [0,1,3,7,7,7,39,119,247,503,1023,7,2055,7,7,7,49159,114695,253959,516103,1040391,2095111,4194303,8388607]) (.cond .leaf .leaf)) (.block (.seq (.reg [A 130 2,A 131 0,A 15 2]) (.seq (.reg [A 132 2,A 133 2,A 134 2,A 135 0,A 136 7,A 137 5,A 138 0,A 139 0,A 16 2]) (.seq (.reg [A 140 2,A 141 0]) (.cond .leaf .leaf)))))))) (.seq (.seq (.reg [A 142 2,A 143 2,A 144 2,A 145 2,A 55 14]) (.cond (.seq (.reg [A 147 2,A 148 0,A 15 2]) (.seq (.reg [A 17 2]) (.seq (.seq (.reg [A 149 2,A 150 0,A 151 2]) (.block (.loop C_nat_div_3 L_nat_div_3 (fun σ=>C_nat_div_3.mk (gInt (gTm σ 9)) (Sl.mk (gSlA (gTm σ 10)) (gSlL (gTm σ 10)) (gSlC (gTm σ 10))) (gInt (gTm σ 13)) (gInt (gTm σ 15)) (Sl.mk (gSlA (gTm σ 149)) (gSlL (gTm σ 149)) (gSlC (gTm σ 149))) (gInt (gTm σ 150))) (fun c x=>{ tm:=spT 201 0 [(8,.val (.int .i64 (p1.len:Int))),(9,.val (.int .i64 c.t9)),(10,.val (c.t10.v)),(11,.osl 55 0 (Int.toNat (i64.wrap ((p0.len:Int)+1))) (Int.toNat (i64.wrap ((p0.len:Int)+1)))),(12,.osl 65 0 (Int.toNat (i64.wrap (((Int.toNat (i64.wrap ((p0.len:Int)+1)):Nat):Int)-(p1.len:Int)))) (Int.toNat (i64.wrap (((Int.toNat (i64.wrap ((p0.len:Int)+1)):Nat):Int)-(p1.len:Int))))),(13,.val (.int .i64 c.t13)),(15,.val (.int .u64 c.t15)),(17,.val (.int .u64 x.t17)),(149,.val (c.t149.v)),(150,.val (.int .i64 c.t150)),(151,.val (.int .i64 x.t151))],own:=spO 201 0 [(55,⟨200,.dyn x.o55⟩),(65,⟨200,.dyn x.o65⟩)] }) I3 J3 (.seq (.reg [A 152 0]) (.seq (.cond .leaf .leaf) (.seq (.block (.seq (.reg [A 153 2,A 154 7,A 155 5,A 18 2,A 19 2]) (.seq (.reg [A 156 2,A 157 2,A 158 2,A 159 2,A 160 0,A 161 7,A 55 4,A 163 0,A 164 2,A 165 0,A 166 0,A 167 0,A 17 2]) (.seq (.reg [A 168 2,A 169 2,A 170 2,A 171 0,A 172 2,A 173 0,A 174 7,A 55 6]) (.reg [A 175 2,A 176 0,A 17 2]))))) (.reg [A 177 0,A 151 2]))))))) (.reg [A 178 2,A 179 2,A 180 2,A 181 0,A 182 7,A 55 4,A 184 2,A 185 0,A 186 0,A 187 7,A 55 6])))) .leaf)) (.reg [A 188 2,A 189 2,A 190 2,A 191 0,A 192 7,A 65 6])))))) (.reg [A 71 2,A 72 0,A 13 2])))))) (.seq (.pub 65 (.pub 55 (.draw [(0,A 193 2),(2,A 195 2),(3,A 196 2),(4,A 197 7),(6,A 199 2),(1,A 194 10),(5,A 198 10),(7,A 200 10),(8,A 4 2),(9,A 5 2)] [0,1,0,0,12,31,0,127,255,511]))) .leaf))))))))))
 (Eq.mpr (by kernel_rfl) (show nat_div_sk p0 p1 V R I0 I1 I2 I3 (fun c w V=>∃x,nat_div_f0 p0 p1 c w x∧I0 c x V) (fun c w V y U=>∃x,nat_div_f0 p0 p1 c w x∧I0 c x V∧J0 c x V<J0 c y U) (fun c w V=>∃x,nat_div_f1 p0 p1 c w x∧I1 c x V) (fun c w V=>∃x,nat_div_f2 p0 p1 c w x∧I2 c x V) (fun c w V y U=>∃x,nat_div_f2 p0 p1 c w x∧I2 c x V∧J2 c x V<J2 c y U) (fun c w V=>∃x,nat_div_f3 p0 p1 c w x∧I3 c x V) (fun c w V y U=>∃x,nat_div_f3 p0 p1 c w x∧I3 c x V∧J3 c x V<J3 c y U)from by
 have h:=Eq.mpr e h; unfold nat_div_sk at h ⊢; have Ee0:=fun c w V (h:I0 c w V)=>(⟨w,⟨⟨rfl,rfl,rfl,rfl,rfl,rfl,trivial⟩,⟨rfl,rfl,trivial⟩⟩,h⟩:∃x,nat_div_f0 p0 p1 c w x∧I0 c x V); have Bb0:=fun c w V y U (h:I0 c w V∧J0 c w V<J0 c y U)=>(⟨w,⟨⟨rfl,rfl,rfl,rfl,rfl,rfl,trivial⟩,⟨rfl,rfl,trivial⟩⟩,h⟩:∃x,nat_div_f0 p0 p1 c w x∧I0 c x V∧J0 c x V<J0 c y U); have Ee1:=fun c w V (h:I1 c w V)=>(⟨w,⟨⟨rfl,rfl,rfl,rfl,rfl,rfl,rfl,trivial⟩,⟨rfl,rfl,trivial⟩⟩,h⟩:∃x,nat_div_f1 p0 p1 c w x∧I1 c x V); have Ee2:=fun c w V (h:I2 c w V)=>(⟨w,⟨⟨rfl,rfl,rfl,rfl,rfl,rfl,rfl,rfl,trivial⟩,⟨rfl,rfl,trivial⟩⟩,h⟩:∃x,nat_div_f2 p0 p1 c w x∧I2 c x V); have Bb2:=fun c w V y U (h:I2 c w V∧J2 c w V<J2 c y U)=>(⟨w,⟨⟨rfl,rfl,rfl,rfl,rfl,rfl,rfl,rfl,trivial⟩,⟨rfl,rfl,trivial⟩⟩,h⟩:∃x,nat_div_f2 p0 p1 c w x∧I2 c x V∧J2 c x V<J2 c y U); have Ee3:=fun c w V (h:I3 c w V)=>(⟨w,⟨⟨rfl,rfl,rfl,rfl,rfl,rfl,rfl,rfl,rfl,rfl,rfl,trivial⟩,⟨rfl,rfl,trivial⟩⟩,h⟩:∃x,nat_div_f3 p0 p1 c w x∧I3 c x V); have Bb3:=fun c w V y U (h:I3 c w V∧J3 c w V<J3 c y U)=>(⟨w,⟨⟨rfl,rfl,rfl,rfl,rfl,rfl,rfl,rfl,rfl,rfl,rfl,trivial⟩,⟨rfl,rfl,trivial⟩⟩,h⟩:∃x,nat_div_f3 p0 p1 c w x∧I3 c x V∧J3 c x V<J3 c y U); exact(CallV.mono h (fun _ _ _ ⟨r1,h74,h73⟩=>⟨r1,h74,⟨fun h72=>(h73.1 h72),fun h72=>⟨fun h71=>⟨((h73.2 h72).1 h71).1,(match ((h73.2 h72).1 h71).2 with|⟨x1,h6,h5⟩=>⟨x1,h6,(CallV.mono h5 (fun _ _ _ ⟨r2,r3,h4,h3⟩=>⟨r2,r3,h4,(CallV.mono h3 (fun _ _ _ ⟨r4,h2,h1⟩=>⟨r4,h2,h1⟩))⟩))⟩)⟩,fun h71=>⟨((h73.2 h72).2 h71).1,(match ((h73.2 h72).2 h71).2 with|⟨x2,h70,h69⟩=>⟨x2,h70,(CallV.mono h69 (fun _ _ _ ⟨r5,h68,h67⟩=>⟨r5,h68,(CallV.mono h67 (fun _ _ _ ⟨r6,h66,h65⟩=>⟨r6,h66,⟨h65.1,(CallV.mono h65.2 (fun _ _ _ ⟨r7,h64,h63⟩=>⟨r7,h64,(match h63 with|⟨l1,h58,h59,h60,h61,h62,h57⟩=>⟨l1,h58,h59,h60,h61,h62,⟨h57.1,⟨(Ee0 _ _ _ h57.2.1),fun x4 V7 h55 h56=>⟨fun h54=>⟨((h57.2.2 x4 V7 h55 h56).1 h54).1,(match ((h57.2.2 x4 V7 h55 h56).1 h54).2 with|⟨x5,h43,h42⟩=>⟨x5,h43,⟨h42.1,(match h42.2 with|⟨x6,h41,h40⟩=>⟨x6,h41,⟨h40.1,(match h40.2 with|⟨x7,h39,h38⟩=>⟨x7,h39,⟨h38.1,⟨h38.2.1,(match h38.2.2 with|⟨x8,h37,h36⟩=>⟨x8,h37,⟨h36.1,⟨⟨(Ee2 _ _ _ h36.2.1.1),fun x11 V9 h20 h21=>⟨fun h19=>⟨fun h10=>⟨(((h36.2.1.2 x11 V9 h20 h21).1 h19).1 h10).1,(match (((h36.2.1.2 x11 V9 h20 h21).1 h19).1 h10).2 with|⟨x12,h9,h8⟩=>⟨x12,h9,⟨fun h7=>(Ee1 _ _ _ (h8.1 h7)),fun h7=>(Bb2 _ _ _ _ _ (h8.2 h7))⟩⟩)⟩,fun h10=>(Ee1 _ _ _ (((h36.2.1.2 x11 V9 h20 h21).1 h19).2 h10))⟩,fun h19=>⟨((h36.2.1.2 x11 V9 h20 h21).2 h19).1,(match ((h36.2.1.2 x11 V9 h20 h21).2 h19).2 with|⟨x16,h18,h17⟩=>⟨x16,h18,⟨h17.1,(match h17.2 with|⟨x17,h16,h15⟩=>⟨x17,h16,⟨fun h14=>⟨(h15.1 h14).1,(match (h15.1 h14).2 with|⟨x18,h13,h12⟩=>⟨x18,h13,⟨fun h11=>(Ee1 _ _ _ (h12.1 h11)),fun h11=>(Bb2 _ _ _ _ _ (h12.2 h11))⟩⟩)⟩,fun h14=>(Ee1 _ _ _ (h15.2 h14))⟩⟩)⟩⟩)⟩⟩⟩,fun x9 V8 h34 h35=>(CallD.mono (h36.2.2 x9 V8 h34 h35) (fun _ l2 _ _ ⟨r8,h33,h32⟩=>⟨r8,h33,⟨fun h31=>⟨(Ee3 _ _ _ (h32.1 h31).1),fun x23 V11 h29 h30=>⟨fun h28=>⟨(((h32.1 h31).2 x23 V11 h29 h30).1 h28).1,(match (((h32.1 h31).2 x23 V11 h29 h30).1 h28).2 with|⟨x24,h25,h24⟩=>⟨x24,h25,⟨h24.1,(match h24.2 with|⟨x25,h23,h22⟩=>⟨x25,h23,⟨h22.1,⟨h22.2.1,(Bb3 _ _ _ _ _ h22.2.2)⟩⟩⟩)⟩⟩)⟩,fun h28=>⟨(((h32.1 h31).2 x23 V11 h29 h30).2 h28).1,(match (((h32.1 h31).2 x23 V11 h29 h30).2 h28).2 with|⟨x27,h27,h26⟩=>⟨x27,h27,⟨h26.1,⟨h26.2.1,⟨h26.2.2.1,⟨h26.2.2.2.1,(Bb0 _ _ _ _ _ h26.2.2.2.2)⟩⟩⟩⟩⟩)⟩⟩⟩,fun h31=>⟨(h32.2 h31).1,⟨(h32.2 h31).2.1,(Bb0 _ _ _ _ _ (h32.2 h31).2.2)⟩⟩⟩⟩))⟩⟩⟩)⟩⟩⟩)⟩⟩)⟩⟩)⟩,fun h54=>(fun b1 V12 h52 h53=>(fun b2 V13 h50 h51=>⟨((((h57.2.2 x4 V7 h55 h56).2 h54) b1 V12 h52 h53) b2 V13 h50 h51).1,(CallV.mono ((((h57.2.2 x4 V7 h55 h56).2 h54) b1 V12 h52 h53) b2 V13 h50 h51).2 (fun _ _ _ ⟨r9,h49,h48⟩=>⟨r9,h49,(CallV.mono h48 (fun _ _ _ ⟨r10,h47,h46⟩=>⟨r10,h47,(CallV.mono h46 (fun _ _ _ ⟨r11,h45,h44⟩=>⟨r11,h45,h44⟩))⟩))⟩))⟩))⟩⟩⟩⟩)⟩))⟩⟩))⟩))⟩)⟩⟩⟩⟩))))
theorem nat_div_vc:type_of% (fun p0 p1 V R I0 J0 I1 I2 J2 I3 J3=>nat_div_v0 p0 p1 V R I0 J0 I1 I2 J2 I3 J3 (nat_div_sk.eq_1 ..)):=fun p0 p1 V R I0 J0 I1 I2 J2 I3 J3=>nat_div_v0 p0 p1 V R I0 J0 I1 I2 J2 I3 J3 (nat_div_sk.eq_1 ..)
end Go.Proofs.YtfdaofhjkdabbaaGreat
