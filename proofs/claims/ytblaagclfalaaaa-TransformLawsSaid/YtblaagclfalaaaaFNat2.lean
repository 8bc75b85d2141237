/- Part of the proof; it has the parts FNat2. -/
import Derived.Test.YtblaagclfalaaaaFNat1
set_option maxRecDepth 100000
set_option maxHeartbeats 4000000
namespace Go.Proofs.Ytblaagclfalaaaa
open Go Go.Vc Go.Proofs
open Go.IntKind (i8 i16 i32 i64 u8 u16 u32 u64)
theorem bits_Div32_vc(p0:Int)(p1:Int)(p2:Int)(V:View)(R:Value->View->Prop)
 (h :
 (((p2:Int) != 0)=true ->
 ((decide ((p2:Int)<=p0))=true ->
 False) /\
 ((decide ((p2:Int)<=p0))=false ->
 ((u64.wrap p2):Int)≠0 /\
 ((u64.wrap p2):Int)≠0 /\
 R (.tuple #[.int .u32 (u32.wrap (u64.wrap (Int.tdiv (u64.wrap (BitVec.toNat ((BitVec.ofInt u64.bits (u64.wrap ((u64.wrap p0)*2^(min (Int.toNat 32) (u64.bits))))) ||| (BitVec.ofInt u64.bits (u64.wrap p1))))) (u64.wrap p2)))),.int .u32 (u32.wrap (Int.tmod (u64.wrap (BitVec.toNat ((BitVec.ofInt u64.bits (u64.wrap ((u64.wrap p0)*2^(min (Int.toNat 32) (u64.bits))))) ||| (BitVec.ofInt u64.bits (u64.wrap p1))))) (u64.wrap p2)))]) V)) /\
 (((p2:Int) != 0)=false ->
 (false=true ->
 False) /\
 (false=false ->
 ((u64.wrap p2):Int)≠0 /\
 ((u64.wrap p2):Int)≠0 /\
 R (.tuple #[.int .u32 (u32.wrap (u64.wrap (Int.tdiv (u64.wrap (BitVec.toNat ((BitVec.ofInt u64.bits (u64.wrap ((u64.wrap p0)*2^(min (Int.toNat 32) (u64.bits))))) ||| (BitVec.ofInt u64.bits (u64.wrap p1))))) (u64.wrap p2)))),.int .u32 (u32.wrap (Int.tmod (u64.wrap (BitVec.toNat ((BitVec.ofInt u64.bits (u64.wrap ((u64.wrap p0)*2^(min (Int.toNat 32) (u64.bits))))) ||| (BitVec.ofInt u64.bits (u64.wrap p1))))) (u64.wrap p2)))]) V))) :
 CallV Try.prog 62 #[.int .u32 p0,.int .u32 p1,.int .u32 p2] V R :=
 calls_of_vc (Shp:=Shp) hmixed Try.func62 (c:=Try.f62.body.getD .skip) (args:=[.int .u32 p0,.int .u32 p1,.int .u32 p2]) (by kernel_rfl)
 (.seq (.reg [A 6 2,A 7 2]) (.seq (.seq (.reg [A 9 2,A 10 0,⟨11,2,true⟩,A 12 2,A 13 2,A 14 0,A 15 2]) (.cond (.reg [A 0 10,A 0 0]) .leaf)) (.seq (.reg [A 17 2,A 18 0,A 19 0,A 20 2,A 21 0,A 22 0,A 8 2]) (.seq (.draw [(0,A 23 2),(1,A 24 2),(2,A 25 0),(3,A 26 12),(4,A 27 0),(5,A 28 2),(6,A 29 2),(7,A 30 0),(8,A 31 12),(9,A 32 0),(10,A 6 2),(11,A 7 2)] [0,0,2,7,15,0,0,64,224,480,31,2047]) .leaf))))
 (Eq.mpr (by kernel_rfl) h)
structure L_nat_short_0 where(t7 t8:Int)(o11:List Value)
def nat_short_f0(p0:Sl)(p1:Int)(_c:Unit)(w x:L_nat_short_0):Prop:=(Q1 (.val p0.v)/\Q1 (.val (.int .u32 p1))/\Q1 (.osl 11 0 (Int.toNat (p0.len:Int)) (Int.toNat (p0.len:Int)))/\E2 (.val (.int .u32 w.t7)) (.val (.int .u32 x.t7))/\E2 (.val (.int .i64 w.t8)) (.val (.int .i64 x.t8))/\True)/\(O2 ⟨71,.dyn w.o11⟩ ⟨71,.dyn x.o11⟩/\True)
def nat_short_sk(p0:Sl)(p1:Int)(V:View)(R:Value->View->Prop)(I0:Unit->L_nat_short_0->View->Prop)(E0:Unit->L_nat_short_0->View->Prop)(B0:Unit->L_nat_short_0->View->L_nat_short_0->View->Prop):Prop :=
 ((0:Int)<=(p0.len:Int)/\((p0.len:Int):Int)<=(p0.len:Int)/\(4:Int)*(p0.len:Int)<=281474976710656/\((p0.len:Int):Int)<=9223372036854775807) /\
 E0 () (L_nat_short_0.mk 0 (i64.wrap ((p0.len:Int)-1)) ((List.replicate (Int.toNat (p0.len:Int)) [Value.int .u32 0]).flatten)) V /\
 (∀(x2:L_nat_short_0) (V1:View),View.le V V1->I0 () x2 V1 ->
 ((decide ((x2.t8:Int)>=0))=true ->
 ((0:Int)<=x2.t8/\(x2.t8:Int)<(p0.len:Nat)/\Option.isSome p0.a=true) /\
 ∃x3:Int,View.load V1 (Option.map (λq=>Addr.add q (Int.toNat x2.t8*1)) p0.a)=some (.int .u32 x3) /\
 CallV Try.prog 62 #[.int .u32 x2.t7,.int .u32 x3,.int .u32 p1] V1 λv V2=>∃(r1:Int) (r2:Int),v = .tuple #[.int .u32 r1,.int .u32 r2] /\
 ((0:Int)<=x2.t8/\(x2.t8:Int)<(Int.toNat (p0.len:Int):Nat)) /\
 0+Int.toNat x2.t8*1+1<=List.length x2.o11 /\
 B0 () (L_nat_short_0.mk r2 (i64.wrap (x2.t8-1)) (List.set x2.o11 (0+Int.toNat x2.t8*1) (.int .u32 r1))) V2 x2 V1) /\
 ((decide ((x2.t8:Int)>=0))=false ->
 ∀(b1:Nat) (V3:View),View.le V1 V3->V3 b1=some (List.toArray x2.o11) ->
 CallV Try.prog 47 #[(Sl.mk (some (Addr.mk b1 0 none)) (Int.toNat (p0.len:Int)) (Int.toNat (p0.len:Int))).v] V3 λv V4=>∃r3:Sl,v=r3.v /\
 R (.tuple #[r3.v,.int .u32 x2.t7]) V4))
theorem nat_short_v0(p0:Sl)(p1:Int)(V:View)(R:Value->View->Prop)(I0:Unit->L_nat_short_0->View->Prop)(J0:Unit->L_nat_short_0->View->Nat){X:Prop}(e:nat_short_sk p0 p1 V R I0 I0 (λc w V x U=>I0 c w V/\J0 c w V<J0 c x U)=X)(h:X) :
 CallV Try.prog 55 #[p0.v,.int .u32 p1] V R :=
 calls_of_vc (Shp:=Shp) hmixed Try.func55 (c:=Try.f55.body.getD .skip) (args:=[p0.v,.int .u32 p1]) (by kernel_rfl)
 (.seq (.reg [A 4 2,A 5 2]) (.seq (.reg [A 9 2,A 10 0,A 11 3,A 6 2]) (.seq (.reg [A 7 2]) (.seq (.seq (.reg [A 12 2,A 13 0,A 14 0,A 8 2]) (.block (.loop Unit L_nat_short_0 (λ_=>()) (λc x=>{ tm:=spT 35 0 [(0,.val p0.v),(1,.val (.int .u32 p1)),(6,.osl 11 0 (Int.toNat (p0.len:Int)) (Int.toNat (p0.len:Int))),(7,.val (.int .u32 x.t7)),(8,.val (.int .i64 x.t8))],own:=spO 35 0 [(11,⟨71,.dyn x.o11⟩)] }) I0 J0 (.seq (.seq (.reg [A 15 2,A 16 0]) (.cond .leaf .leaf)) (.seq (.block (.reg [A 20 2,A 21 2,A 22 2,A 23 2,A 24 2,A 25 7,A 26 5,A 27 2,A 28 10,A 19 2,A 29 0,A 30 0,A 31 7,A 11 6,A 7 2])) (.reg [A 17 2,A 18 0,A 8 2])))))) (.seq (.pub 11 (.reg [A 32 2,A 33 10,A 34 2,A 4 2,A 5 2])) .leaf)))))
 (Eq.mpr (by kernel_rfl) (show nat_short_sk p0 p1 V R I0 (λc w V=>∃x,nat_short_f0 p0 p1 c w x/\I0 c x V) (λc w V y U=>∃x,nat_short_f0 p0 p1 c w x/\I0 c x V/\J0 c x V<J0 c y U)from by
 have h:=Eq.mpr e h; unfold nat_short_sk at h ⊢; have Ee0:=λc w V (h:I0 c w V)=>(⟨w,⟨⟨rfl,rfl,rfl,rfl,rfl,trivial⟩,⟨rfl,trivial⟩⟩,h⟩:∃x,nat_short_f0 p0 p1 c w x/\I0 c x V); have Bb0:=λc w V y U (h:I0 c w V/\J0 c w V<J0 c y U)=>(⟨w,⟨⟨rfl,rfl,rfl,rfl,rfl,trivial⟩,⟨rfl,trivial⟩⟩,h⟩:∃x,nat_short_f0 p0 p1 c w x/\I0 c x V/\J0 c x V<J0 c y U); exact⟨h.1,⟨(Ee0 _ _ _ h.2.1),λx2 V1 h10 h11=>⟨λh9=>⟨((h.2.2 x2 V1 h10 h11).1 h9).1,(match ((h.2.2 x2 V1 h10 h11).1 h9).2 with|⟨x3,h4,h3⟩=>⟨x3,h4,(CallV.mono h3 (λ_ _ _ ⟨r1,r2,h2,h1⟩=>⟨r1,r2,h2,⟨h1.1,⟨h1.2.1,(Bb0 _ _ _ _ _ h1.2.2)⟩⟩⟩))⟩)⟩,λh9=>(λb1 V3 h7 h8=>(CallV.mono (((h.2.2 x2 V1 h10 h11).2 h9) b1 V3 h7 h8) (λ_ _ _ ⟨r3,h6,h5⟩=>⟨r3,h6,h5⟩)))⟩⟩⟩))
theorem nat_short_vc:type_of% (λp0 p1 V R I0 J0=>nat_short_v0 p0 p1 V R I0 J0 (nat_short_sk.eq_1 ..)):=λp0 p1 V R I0 J0=>nat_short_v0 p0 p1 V R I0 J0 (nat_short_sk.eq_1 ..)
theorem bits_Len32_vc(p0:Int)(V:View)(R:Value->View->Prop)
 (h :
 ((decide ((p0:Int)>=65536))=true ->
 ((decide (((Int.fdiv p0 (2^(min (Int.toNat 16) (u32.bits)))):Int)>=256))=true ->
 ((0:Int)<=(u8.wrap (Int.fdiv (Int.fdiv p0 (2^(min (Int.toNat 16) (u32.bits)))) (2^(min (Int.toNat 8) (u32.bits)))))/\((u8.wrap (Int.fdiv (Int.fdiv p0 (2^(min (Int.toNat 16) (u32.bits)))) (2^(min (Int.toNat 8) (u32.bits))))):Int)<(ByteArray.size (ByteArray.mk #[0,1,2,2,3,3,3,3,4,4,4,4,4,4,4,4,5,5,5,5,5,5,5,5,5,5,5,5,5,5,5,5,6,6,6,6,6,6,6,6,6,6,6,6,6,6,6,6,6,6,6,6,6,6,6,6,6,6,6,6,6,6,6,6,7,7,7,7,7,7,7,7,7,7,7,7,7,7,7,7,7,7,7,7,7,7,7,7,7,7,7,7,7,7,7,7,7,7,7,7,7,7,7,7,7,7,7,7,7,7,7,7,7,7,7,7,7,7,7,7,7,7,7,7,7,7,7,7,8,8,8,8,8,8,8,8,8,8,8,8,8,8,8,8,8,8,8,8,8,8,8,8,8,8,8,8,8,8,8,8,8,8,8,8,8,8,8,8,8,8,8,8,8,8,8,8,8,8,8,8,8,8,8,8,8,8,8,8,8,8,8,8,8,8,8,8,8,8,8,8,8,8,8,8,8,8,8,8,8,8,8,8,8,8,8,8,8,8,8,8,8,8,8,8,8,8,8,8,8,8,8,8,8,8,8,8,8,8,8,8,8,8,8,8,8,8,8,8,8,8,8,8,8,8,8,8]):Nat)) /\
 R (.int .i64 (i64.wrap ((i64.wrap (16+8))+(i64.wrap (strAt (ByteArray.mk #[0,1,2,2,3,3,3,3,4,4,4,4,4,4,4,4,5,5,5,5,5,5,5,5,5,5,5,5,5,5,5,5,6,6,6,6,6,6,6,6,6,6,6,6,6,6,6,6,6,6,6,6,6,6,6,6,6,6,6,6,6,6,6,6,7,7,7,7,7,7,7,7,7,7,7,7,7,7,7,7,7,7,7,7,7,7,7,7,7,7,7,7,7,7,7,7,7,7,7,7,7,7,7,7,7,7,7,7,7,7,7,7,7,7,7,7,7,7,7,7,7,7,7,7,7,7,7,7,8,8,8,8,8,8,8,8,8,8,8,8,8,8,8,8,8,8,8,8,8,8,8,8,8,8,8,8,8,8,8,8,8,8,8,8,8,8,8,8,8,8,8,8,8,8,8,8,8,8,8,8,8,8,8,8,8,8,8,8,8,8,8,8,8,8,8,8,8,8,8,8,8,8,8,8,8,8,8,8,8,8,8,8,8,8,8,8,8,8,8,8,8,8,8,8,8,8,8,8,8,8,8,8,8,8,8,8,8,8,8,8,8,8,8,8,8,8,8,8,8,8,8,8,8,8,8,8]) (Int.toNat (u8.wrap (Int.fdiv (Int.fdiv p0 (2^(min (Int.toNat 16) (u32.bits)))) (2^(min (Int.toNat 8) (u32.bits))))))))))) V) /\
 ((decide (((Int.fdiv p0 (2^(min (Int.toNat 16) (u32.bits)))):Int)>=256))=false ->
 ((0:Int)<=(u8.wrap (Int.fdiv p0 (2^(min (Int.toNat 16) (u32.bits)))))/\((u8.wrap (Int.fdiv p0 (2^(min (Int.toNat 16) (u32.bits))))):Int)<(ByteArray.size (ByteArray.mk #[0,1,2,2,3,3,3,3,4,4,4,4,4,4,4,4,5,5,5,5,5,5,5,5,5,5,5,5,5,5,5,5,6,6,6,6,6,6,6,6,6,6,6,6,6,6,6,6,6,6,6,6,6,6,6,6,6,6,6,6,6,6,6,6,7,7,7,7,7,7,7,7,7,7,7,7,7,7,7,7,7,7,7,7,7,7,7,7,7,7,7,7,7,7,7,7,7,7,7,7,7,7,7,7,7,7,7,7,7,7,7,7,7,7,7,7,7,7,7,7,7,7,7,7,7,7,7,7,8,8,8,8,8,8,8,8,8,8,8,8,8,8,8,8,8,8,8,8,8,8,8,8,8,8,8,8,8,8,8,8,8,8,8,8,8,8,8,8,8,8,8,8,8,8,8,8,8,8,8,8,8,8,8,8,8,8,8,8,8,8,8,8,8,8,8,8,8,8,8,8,8,8,8,8,8,8,8,8,8,8,8,8,8,8,8,8,8,8,8,8,8,8,8,8,8,8,8,8,8,8,8,8,8,8,8,8,8,8,8,8,8,8,8,8,8,8,8,8,8,8,8,8,8,8,8,8]):Nat)) /\
 R (.int .i64 (i64.wrap (16+(i64.wrap (strAt (ByteArray.mk #[0,1,2,2,3,3,3,3,4,4,4,4,4,4,4,4,5,5,5,5,5,5,5,5,5,5,5,5,5,5,5,5,6,6,6,6,6,6,6,6,6,6,6,6,6,6,6,6,6,6,6,6,6,6,6,6,6,6,6,6,6,6,6,6,7,7,7,7,7,7,7,7,7,7,7,7,7,7,7,7,7,7,7,7,7,7,7,7,7,7,7,7,7,7,7,7,7,7,7,7,7,7,7,7,7,7,7,7,7,7,7,7,7,7,7,7,7,7,7,7,7,7,7,7,7,7,7,7,8,8,8,8,8,8,8,8,8,8,8,8,8,8,8,8,8,8,8,8,8,8,8,8,8,8,8,8,8,8,8,8,8,8,8,8,8,8,8,8,8,8,8,8,8,8,8,8,8,8,8,8,8,8,8,8,8,8,8,8,8,8,8,8,8,8,8,8,8,8,8,8,8,8,8,8,8,8,8,8,8,8,8,8,8,8,8,8,8,8,8,8,8,8,8,8,8,8,8,8,8,8,8,8,8,8,8,8,8,8,8,8,8,8,8,8,8,8,8,8,8,8,8,8,8,8,8,8]) (Int.toNat (u8.wrap (Int.fdiv p0 (2^(min (Int.toNat 16) (u32.bits))))))))))) V)) /\
 ((decide ((p0:Int)>=65536))=false ->
 ((decide ((p0:Int)>=256))=true ->
 ((0:Int)<=(u8.wrap (Int.fdiv p0 (2^(min (Int.toNat 8) (u32.bits)))))/\((u8.wrap (Int.fdiv p0 (2^(min (Int.toNat 8) (u32.bits))))):Int)<(ByteArray.size (ByteArray.mk #[0,1,2,2,3,3,3,3,4,4,4,4,4,4,4,4,5,5,5,5,5,5,5,5,5,5,5,5,5,5,5,5,6,6,6,6,6,6,6,6,6,6,6,6,6,6,6,6,6,6,6,6,6,6,6,6,6,6,6,6,6,6,6,6,7,7,7,7,7,7,7,7,7,7,7,7,7,7,7,7,7,7,7,7,7,7,7,7,7,7,7,7,7,7,7,7,7,7,7,7,7,7,7,7,7,7,7,7,7,7,7,7,7,7,7,7,7,7,7,7,7,7,7,7,7,7,7,7,8,8,8,8,8,8,8,8,8,8,8,8,8,8,8,8,8,8,8,8,8,8,8,8,8,8,8,8,8,8,8,8,8,8,8,8,8,8,8,8,8,8,8,8,8,8,8,8,8,8,8,8,8,8,8,8,8,8,8,8,8,8,8,8,8,8,8,8,8,8,8,8,8,8,8,8,8,8,8,8,8,8,8,8,8,8,8,8,8,8,8,8,8,8,8,8,8,8,8,8,8,8,8,8,8,8,8,8,8,8,8,8,8,8,8,8,8,8,8,8,8,8,8,8,8,8,8,8]):Nat)) /\
 R (.int .i64 (i64.wrap ((i64.wrap (0+8))+(i64.wrap (strAt (ByteArray.mk #[0,1,2,2,3,3,3,3,4,4,4,4,4,4,4,4,5,5,5,5,5,5,5,5,5,5,5,5,5,5,5,5,6,6,6,6,6,6,6,6,6,6,6,6,6,6,6,6,6,6,6,6,6,6,6,6,6,6,6,6,6,6,6,6,7,7,7,7,7,7,7,7,7,7,7,7,7,7,7,7,7,7,7,7,7,7,7,7,7,7,7,7,7,7,7,7,7,7,7,7,7,7,7,7,7,7,7,7,7,7,7,7,7,7,7,7,7,7,7,7,7,7,7,7,7,7,7,7,8,8,8,8,8,8,8,8,8,8,8,8,8,8,8,8,8,8,8,8,8,8,8,8,8,8,8,8,8,8,8,8,8,8,8,8,8,8,8,8,8,8,8,8,8,8,8,8,8,8,8,8,8,8,8,8,8,8,8,8,8,8,8,8,8,8,8,8,8,8,8,8,8,8,8,8,8,8,8,8,8,8,8,8,8,8,8,8,8,8,8,8,8,8,8,8,8,8,8,8,8,8,8,8,8,8,8,8,8,8,8,8,8,8,8,8,8,8,8,8,8,8,8,8,8,8,8,8]) (Int.toNat (u8.wrap (Int.fdiv p0 (2^(min (Int.toNat 8) (u32.bits))))))))))) V) /\
 ((decide ((p0:Int)>=256))=false ->
 ((0:Int)<=(u8.wrap p0)/\((u8.wrap p0):Int)<(ByteArray.size (ByteArray.mk #[0,1,2,2,3,3,3,3,4,4,4,4,4,4,4,4,5,5,5,5,5,5,5,5,5,5,5,5,5,5,5,5,6,6,6,6,6,6,6,6,6,6,6,6,6,6,6,6,6,6,6,6,6,6,6,6,6,6,6,6,6,6,6,6,7,7,7,7,7,7,7,7,7,7,7,7,7,7,7,7,7,7,7,7,7,7,7,7,7,7,7,7,7,7,7,7,7,7,7,7,7,7,7,7,7,7,7,7,7,7,7,7,7,7,7,7,7,7,7,7,7,7,7,7,7,7,7,7,8,8,8,8,8,8,8,8,8,8,8,8,8,8,8,8,8,8,8,8,8,8,8,8,8,8,8,8,8,8,8,8,8,8,8,8,8,8,8,8,8,8,8,8,8,8,8,8,8,8,8,8,8,8,8,8,8,8,8,8,8,8,8,8,8,8,8,8,8,8,8,8,8,8,8,8,8,8,8,8,8,8,8,8,8,8,8,8,8,8,8,8,8,8,8,8,8,8,8,8,8,8,8,8,8,8,8,8,8,8,8,8,8,8,8,8,8,8,8,8,8,8,8,8,8,8,8,8]):Nat)) /\
 R (.int .i64 (i64.wrap (0+(i64.wrap (strAt (ByteArray.mk #[0,1,2,2,3,3,3,3,4,4,4,4,4,4,4,4,5,5,5,5,5,5,5,5,5,5,5,5,5,5,5,5,6,6,6,6,6,6,6,6,6,6,6,6,6,6,6,6,6,6,6,6,6,6,6,6,6,6,6,6,6,6,6,6,7,7,7,7,7,7,7,7,7,7,7,7,7,7,7,7,7,7,7,7,7,7,7,7,7,7,7,7,7,7,7,7,7,7,7,7,7,7,7,7,7,7,7,7,7,7,7,7,7,7,7,7,7,7,7,7,7,7,7,7,7,7,7,7,8,8,8,8,8,8,8,8,8,8,8,8,8,8,8,8,8,8,8,8,8,8,8,8,8,8,8,8,8,8,8,8,8,8,8,8,8,8,8,8,8,8,8,8,8,8,8,8,8,8,8,8,8,8,8,8,8,8,8,8,8,8,8,8,8,8,8,8,8,8,8,8,8,8,8,8,8,8,8,8,8,8,8,8,8,8,8,8,8,8,8,8,8,8,8,8,8,8,8,8,8,8,8,8,8,8,8,8,8,8,8,8,8,8,8,8,8,8,8,8,8,8,8,8,8,8,8,8]) (Int.toNat (u8.wrap p0))))))) V))) :
 CallV Try.prog 63 #[.int .u32 p0] V R :=
 calls_of_vc (Shp:=Shp) hmixed Try.func63 (c:=Try.f63.body.getD .skip) (args:=[.int .u32 p0]) (by kernel_rfl)
 (.seq (.reg [A 2 2]) (.seq (.seq (.reg [A 3 2,A 4 0]) (.cond (.seq (.reg [A 5 2,A 6 0,A 0 2]) (.reg [A 2 2])) .leaf)) (.seq (.seq (.reg [A 7 2,A 8 0]) (.cond (.seq (.reg [A 9 2,A 10 0,A 0 2]) (.reg [A 11 2,A 12 0,A 2 2])) .leaf)) (.seq (.reg [A 13 2,A 14 2,A 15 0,A 16 12,A 17 0,A 18 0,A 2 2]) .leaf))))
 (Eq.mpr (by kernel_rfl) h)
theorem bits_LeadingZeros32_vc(p0:Int)(V:View)(R:Value->View->Prop)
 (h :
 CallV Try.prog 63 #[.int .u32 p0] V λv V1=>∃r1:Int,v = .int .i64 r1 /\
 R (.int .i64 (i64.wrap (32-r1))) V1) :
 CallV Try.prog 56 #[.int .u32 p0] V R :=
 calls_of_vc (Shp:=Shp) hmixed Try.func56 (c:=Try.f56.body.getD .skip) (args:=[.int .u32 p0]) (by kernel_rfl)
 (.seq (.reg [A 2 2]) (.seq (.reg [A 3 2,A 4 10,A 5 0,A 2 2]) .leaf))
 (Eq.mpr (by kernel_rfl) h)
structure L_num_take_0 where(t9 t10 t18:Int)(o0:List Value)
def num_take_f0(p0o:Nat)(p0l:Nat)(p0c:Nat)(p1:Sl)(p2:Int)(p3:Int)(_c:Unit)(w x:L_num_take_0):Prop:=(Q1 (.osl 0 p0o p0l p0c)/\Q1 (.val p1.v)/\Q1 (.val (.int .u64 p2))/\Q1 (.val (.int .i64 p3))/\E2 (.val (.int .u64 w.t9)) (.val (.int .u64 x.t9))/\E2 (.val (.int .u64 w.t10)) (.val (.int .u64 x.t10))/\Q1 (.val p1.v)/\Q1 (.val (.int .i64 (p1.len:Int)))/\E2 (.val (.int .i64 w.t18)) (.val (.int .i64 x.t18))/\True)/\(O2 ⟨71,.dyn w.o0⟩ ⟨71,.dyn x.o0⟩/\True)
def num_take_sk(p0o p0l p0c:Nat)(p0w:List Value)(p1:Sl)(p2:Int)(p3:Int)(V:View)(R:Value->List Value->View->Prop)(I0:Unit->L_num_take_0->View->Prop)(E0:Unit->L_num_take_0->View->Prop)(B0:Unit->L_num_take_0->View->L_num_take_0->View->Prop):Prop :=
 E0 () (L_num_take_0.mk 0 0 0 p0w) V /\
 (∀(x2:L_num_take_0) (V1:View),View.le V V1->I0 () x2 V1 ->
 ((decide ((x2.t18:Int)<(p1.len:Int)))=true ->
 ((0:Int)<=x2.t18/\(x2.t18:Int)<(p1.len:Nat)/\Option.isSome p1.a=true) /\
 ∃x3:Int,View.load V1 (Option.map (λq=>Addr.add q (Int.toNat x2.t18*1)) p1.a)=some (.int .u32 x3) /\
 ((0:Int)<=(i64.wrap (x2.t18+p3))/\((i64.wrap (x2.t18+p3)):Int)<(p0l:Nat)) /\
 ∃x4:Int,x2.o0[p0o+Int.toNat (i64.wrap (x2.t18+p3))*1]?=some (.int .u32 x4) /\
 ((0:Int)<=(i64.wrap (x2.t18+p3))/\((i64.wrap (x2.t18+p3)):Int)<(p0l:Nat)) /\
 p0o+Int.toNat (i64.wrap (x2.t18+p3))*1+1<=List.length x2.o0 /\
 B0 () (L_num_take_0.mk (Int.fdiv (u64.wrap ((u64.wrap (p2*(u64.wrap x3)))+x2.t9)) (2^(min (Int.toNat 32) (u64.bits)))) (Int.fdiv (u64.wrap ((u64.wrap ((u64.wrap x4)-(u64.wrap (u32.wrap (u64.wrap ((u64.wrap (p2*(u64.wrap x3)))+x2.t9))))))-x2.t10)) (2^(min (Int.toNat 63) (u64.bits)))) (i64.wrap (x2.t18+1)) (List.set x2.o0 (p0o+Int.toNat (i64.wrap (x2.t18+p3))*1) (.int .u32 (u32.wrap (u64.wrap ((u64.wrap ((u64.wrap x4)-(u64.wrap (u32.wrap (u64.wrap ((u64.wrap (p2*(u64.wrap x3)))+x2.t9))))))-x2.t10)))))) V1 x2 V1) /\
 ((decide ((x2.t18:Int)<(p1.len:Int)))=false ->
 ((0:Int)<=(i64.wrap (p3+(p1.len:Int)))/\((i64.wrap (p3+(p1.len:Int))):Int)<(p0l:Nat)) /\
 ∃x6:Int,x2.o0[p0o+Int.toNat (i64.wrap (p3+(p1.len:Int)))*1]?=some (.int .u32 x6) /\
 ((0:Int)<=(i64.wrap (p3+(p1.len:Int)))/\((i64.wrap (p3+(p1.len:Int))):Int)<(p0l:Nat)) /\
 p0o+Int.toNat (i64.wrap (p3+(p1.len:Int)))*1+1<=List.length x2.o0 /\
 R (.bool (((Int.fdiv (u64.wrap ((u64.wrap ((u64.wrap x6)-x2.t9))-x2.t10)) (2^(min (Int.toNat 63) (u64.bits)))):Int) != 0)) (List.set x2.o0 (p0o+Int.toNat (i64.wrap (p3+(p1.len:Int)))*1) (.int .u32 (u32.wrap (u64.wrap ((u64.wrap ((u64.wrap x6)-x2.t9))-x2.t10))))) V1))
theorem num_take_v0(p0o p0l p0c:Nat)(p0w:List Value)(p1:Sl)(p2:Int)(p3:Int)(V:View)(R:Value->List Value->View->Prop)(I0:Unit->L_num_take_0->View->Prop)(J0:Unit->L_num_take_0->View->Nat){X:Prop}(e:num_take_sk p0o p0l p0c p0w p1 p2 p3 V R I0 I0 (λc w V x U=>I0 c w V/\J0 c w V<J0 c x U)=X)(h:X) :
 CallD Try.prog 58 (λb=>(Value.slice (some ⟨b,p0o,none⟩) p0l p0c::[p1.v,.int .u64 p2,.int .i64 p3]:List Value)) 71 p0w V R :=
 calls_of_vcD (Shp:=Shp) (l:=p0w) (off:=p0o) (len:=p0l) (cap:=p0c) hmixed Try.func58 (c:=Try.f58.body.getD .skip) (args:=[p1.v,.int .u64 p2,.int .i64 p3]) (by kernel_rfl)
 (.seq (.reg [A 8 2]) (.seq (.reg [A 9 2,A 10 2]) (.seq (.seq (.reg [A 16 2,A 17 0,A 18 2]) (.block (.loop Unit L_num_take_0 (λ_=>()) (λc x=>{ tm:=spT 77 0 [(0,.osl 0 p0o p0l p0c),(1,.val p1.v),(2,.val (.int .u64 p2)),(3,.val (.int .i64 p3)),(9,.val (.int .u64 x.t9)),(10,.val (.int .u64 x.t10)),(16,.val p1.v),(17,.val (.int .i64 (p1.len:Int))),(18,.val (.int .i64 x.t18))],own:=spO 77 0 [(0,⟨71,.dyn x.o0⟩)] }) I0 J0 (.seq (.reg [A 19 0]) (.seq (.cond .leaf .leaf) (.seq (.block (.seq (.reg [A 20 2,A 21 7,A 22 5,A 11 2,A 12 2]) (.seq (.reg [A 23 2,A 24 2,A 25 0,A 26 0,A 27 2,A 28 0,A 13 2]) (.seq (.reg [A 29 2,A 30 0,A 9 2]) (.seq (.reg [A 31 2,A 32 2,A 33 2,A 34 0,A 35 7,A 0 4,A 37 0,A 38 2,A 39 0,A 40 0,A 41 0,A 42 2,A 43 0,A 14 2]) (.seq (.reg [A 44 2,A 45 2,A 46 2,A 47 0,A 48 2,A 49 0,A 50 7,A 0 6]) (.reg [A 51 2,A 52 0,A 10 2]))))))) (.reg [A 53 0,A 18 2]))))))) (.seq (.reg [A 54 2,A 55 2,A 56 2,A 57 0,A 58 0,A 59 7,A 0 4,A 61 0,A 62 2,A 63 0,A 64 2,A 65 0,A 15 2]) (.seq (.reg [A 66 2,A 67 2,A 68 2,A 69 0,A 70 0,A 71 2,A 72 0,A 73 7,A 0 6]) (.seq (.reg [A 74 2,A 75 0,A 76 0,A 8 2]) .leaf))))))
 (Eq.mpr (by kernel_rfl) (show num_take_sk p0o p0l p0c p0w p1 p2 p3 V R I0 (λc w V=>∃x,num_take_f0 p0o p0l p0c p1 p2 p3 c w x/\I0 c x V) (λc w V y U=>∃x,num_take_f0 p0o p0l p0c p1 p2 p3 c w x/\I0 c x V/\J0 c x V<J0 c y U)from by
 have h:=Eq.mpr e h; unfold num_take_sk at h ⊢; have Ee0:=λc w V (h:I0 c w V)=>(⟨w,⟨⟨rfl,rfl,rfl,rfl,rfl,rfl,rfl,rfl,rfl,trivial⟩,⟨rfl,trivial⟩⟩,h⟩:∃x,num_take_f0 p0o p0l p0c p1 p2 p3 c w x/\I0 c x V); have Bb0:=λc w V y U (h:I0 c w V/\J0 c w V<J0 c y U)=>(⟨w,⟨⟨rfl,rfl,rfl,rfl,rfl,rfl,rfl,rfl,rfl,trivial⟩,⟨rfl,trivial⟩⟩,h⟩:∃x,num_take_f0 p0o p0l p0c p1 p2 p3 c w x/\I0 c x V/\J0 c x V<J0 c y U); exact⟨(Ee0 _ _ _ h.1),λx2 V1 h8 h9=>⟨λh7=>⟨((h.2 x2 V1 h8 h9).1 h7).1,(match ((h.2 x2 V1 h8 h9).1 h7).2 with|⟨x3,h4,h3⟩=>⟨x3,h4,⟨h3.1,(match h3.2 with|⟨x4,h2,h1⟩=>⟨x4,h2,⟨h1.1,⟨h1.2.1,(Bb0 _ _ _ _ _ h1.2.2)⟩⟩⟩)⟩⟩)⟩,λh7=>⟨((h.2 x2 V1 h8 h9).2 h7).1,(match ((h.2 x2 V1 h8 h9).2 h7).2 with|⟨x6,h6,h5⟩=>⟨x6,h6,⟨h5.1,⟨h5.2.1,h5.2.2⟩⟩⟩)⟩⟩⟩))
theorem num_take_vc:type_of% (λp0o p0l p0c p0w p1 p2 p3 V R I0 J0=>num_take_v0 p0o p0l p0c p0w p1 p2 p3 V R I0 J0 (num_take_sk.eq_1 ..)):=λp0o p0l p0c p0w p1 p2 p3 V R I0 J0=>num_take_v0 p0o p0l p0c p0w p1 p2 p3 V R I0 J0 (num_take_sk.eq_1 ..)
