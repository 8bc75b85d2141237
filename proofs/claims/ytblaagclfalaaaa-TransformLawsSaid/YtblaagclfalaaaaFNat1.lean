/- Part of the proof; it has the parts FNat1. -/
import Derived.Test.YtblaagclfalaaaaP
set_option maxRecDepth 100000
set_option maxHeartbeats 4000000
namespace Go.Proofs.Ytblaagclfalaaaa
open Go Go.Vc Go.Proofs
open Go.IntKind (i8 i16 i32 i64 u8 u16 u32 u64)
structure L_num_trim_0 where(t3:Int)
def num_trim_f0(p0:Sl)(_c:Unit)(w x:L_num_trim_0):Prop:=(Q1 (.val p0.v)/\E2 (.val (.int .i64 w.t3)) (.val (.int .i64 x.t3))/\True)/\(True)
def num_trim_sk(p0:Sl)(V:View)(R:Value->View->Prop)(I0:Unit->L_num_trim_0->View->Prop)(E0:Unit->L_num_trim_0->View->Prop)(B0:Unit->L_num_trim_0->View->L_num_trim_0->View->Prop):Prop :=
 E0 () (L_num_trim_0.mk (p0.len:Int)) V /\
 (∀(x2:L_num_trim_0) (V1:View),View.le V V1->I0 () x2 V1 ->
 ((decide ((x2.t3:Int)>0))=true ->
 ((0:Int)<=(i64.wrap (x2.t3-1))/\((i64.wrap (x2.t3-1)):Int)<(p0.len:Nat)/\Option.isSome p0.a=true) /\
 ∃x3:Int,View.load V1 (Option.map (λq=>Addr.add q (Int.toNat (i64.wrap (x2.t3-1))*1)) p0.a)=some (.int .u32 x3) /\
 (((x3:Int)==0)=true ->
 B0 () (L_num_trim_0.mk (i64.wrap (x2.t3-1))) V1 x2 V1) /\
 (((x3:Int)==0)=false ->
 ((0:Int)<=0/\(0:Int)<=x2.t3/\(x2.t3:Int)<=x2.t3/\(x2.t3:Int)<=(p0.cap:Nat)) /\
 R ((Sl.mk (if Int.toNat x2.t3=Int.toNat 0 then p0.a else Option.map (λq=>Addr.add q (Int.toNat 0*1)) p0.a) (Int.toNat x2.t3-Int.toNat 0) (Int.toNat x2.t3-Int.toNat 0)).v) V1)) /\
 ((decide ((x2.t3:Int)>0))=false ->
 (false=true ->
 B0 () (L_num_trim_0.mk (i64.wrap (x2.t3-1))) V1 x2 V1) /\
 (false=false ->
 ((0:Int)<=0/\(0:Int)<=x2.t3/\(x2.t3:Int)<=x2.t3/\(x2.t3:Int)<=(p0.cap:Nat)) /\
 R ((Sl.mk (if Int.toNat x2.t3=Int.toNat 0 then p0.a else Option.map (λq=>Addr.add q (Int.toNat 0*1)) p0.a) (Int.toNat x2.t3-Int.toNat 0) (Int.toNat x2.t3-Int.toNat 0)).v) V1)))
theorem num_trim_v0(p0:Sl)(V:View)(R:Value->View->Prop)(I0:Unit->L_num_trim_0->View->Prop)(J0:Unit->L_num_trim_0->View->Nat){X:Prop}(e:num_trim_sk p0 V R I0 I0 (λc w V x U=>I0 c w V/\J0 c w V<J0 c x U)=X)(h:X) :
 CallV Try.prog 47 #[p0.v] V R :=
 calls_of_vc (Shp:=Shp) hmixed Try.func47 (c:=Try.f47.body.getD .skip) (args:=[p0.v]) (by kernel_rfl)
 (.seq (.reg [A 2 2]) (.seq (.reg [A 4 2,A 5 0,A 3 2]) (.seq (.block (.loop Unit L_num_trim_0 (λ_=>()) (λc x=>{ tm:=spT 22 0 [(0,.val p0.v),(3,.val (.int .i64 x.t3))],own:=spO 22 0 [] }) I0 J0 (.seq (.seq (.reg [A 6 2,A 7 0,⟨8,2,true⟩,A 9 2,A 10 2,A 11 0,A 12 7,A 13 5,A 14 0,A 15 2]) (.cond .leaf .leaf)) (.block (.reg [A 16 2,A 17 0,A 3 2]))))) (.seq (.reg [A 18 2,A 19 2,A 20 2,A 21 12,A 2 2]) .leaf))))
 (Eq.mpr (by kernel_rfl) (show num_trim_sk p0 V R I0 (λc w V=>∃x,num_trim_f0 p0 c w x/\I0 c x V) (λc w V y U=>∃x,num_trim_f0 p0 c w x/\I0 c x V/\J0 c x V<J0 c y U)from by
 have h:=Eq.mpr e h; unfold num_trim_sk at h ⊢; have Ee0:=λc w V (h:I0 c w V)=>(⟨w,⟨⟨rfl,rfl,trivial⟩,trivial⟩,h⟩:∃x,num_trim_f0 p0 c w x/\I0 c x V); have Bb0:=λc w V y U (h:I0 c w V/\J0 c w V<J0 c y U)=>(⟨w,⟨⟨rfl,rfl,trivial⟩,trivial⟩,h⟩:∃x,num_trim_f0 p0 c w x/\I0 c x V/\J0 c x V<J0 c y U); exact⟨(Ee0 _ _ _ h.1),λx2 V1 h6 h7=>⟨λh5=>⟨((h.2 x2 V1 h6 h7).1 h5).1,(match ((h.2 x2 V1 h6 h7).1 h5).2 with|⟨x3,h3,h2⟩=>⟨x3,h3,⟨λh1=>(Bb0 _ _ _ _ _ (h2.1 h1)),λh1=>⟨(h2.2 h1).1,(h2.2 h1).2⟩⟩⟩)⟩,λh5=>⟨λh4=>(Bb0 _ _ _ _ _ (((h.2 x2 V1 h6 h7).2 h5).1 h4)),λh4=>⟨(((h.2 x2 V1 h6 h7).2 h5).2 h4).1,(((h.2 x2 V1 h6 h7).2 h5).2 h4).2⟩⟩⟩⟩))
theorem num_trim_vc:type_of% (λp0 V R I0 J0=>num_trim_v0 p0 V R I0 J0 (num_trim_sk.eq_1 ..)):=λp0 V R I0 J0=>num_trim_v0 p0 V R I0 J0 (num_trim_sk.eq_1 ..)
theorem num_natOf_vc(p0:Int)(V:View)(R:Value->View->Prop)
 (h :
 ∀(b1:Nat) (V1:View),View.le V V1->View.Fin V1->V1 b1=some #[.int .u32 (u32.wrap p0),.int .u32 (u32.wrap (Int.fdiv p0 (2^(min (Int.toNat 32) (u64.bits)))))] ->
 CallV Try.prog 47 #[(Sl.mk (some (Addr.mk b1 0 none)) 2 2).v] V1 λv V2=>∃r1:Sl,v=r1.v /\
 R (r1.v) V2) :
 CallV Try.prog 48 #[.int .u64 p0] V R :=
 calls_of_vc (Shp:=Shp) hmixed Try.func48 (c:=Try.f48.body.getD .skip) (args:=[.int .u64 p0]) (by kernel_rfl)
 (.seq (.reg [A 2 2]) (.seq (.reg [A 3 2,A 4 0,A 5 2,A 6 0,A 7 0,A 8 11,A 9 10,A 2 2]) .leaf))
 (Eq.mpr (by kernel_rfl) h)
theorem nat_one_vc(p0:Sl)(V:View)(R:Value->View->Prop)
 (h :
 ((((p0.len:Int):Int)==1)=true ->
 ((0:Int)<=0/\(0:Int)<(p0.len:Nat)/\Option.isSome p0.a=true) /\
 ∃x1:Int,View.load V (Option.map (λq=>Addr.add q (Int.toNat 0*1)) p0.a)=some (.int .u32 x1) /\
 R (.bool ((x1:Int)==1)) V) /\
 ((((p0.len:Int):Int)==1)=false ->
 R (.bool false) V)) :
 CallV Try.prog 45 #[p0.v] V R :=
 calls_of_vc (Shp:=Shp) hmixed Try.func45 (c:=Try.f45.body.getD .skip) (args:=[p0.v]) (by kernel_rfl)
 (.seq (.reg [A 2 2]) (.seq (.reg [A 3 2,A 4 0,A 5 0,⟨6,2,true⟩,A 7 2,A 8 7,A 9 5,A 10 0,A 11 2,A 2 2]) .leaf))
 (Eq.mpr (by kernel_rfl) h)
structure L_nat_cmp_0 where(t5:Int)
def nat_cmp_f0(p0:Sl)(p1:Sl)(_c:Unit)(w x:L_nat_cmp_0):Prop:=(Q1 (.val p0.v)/\Q1 (.val p1.v)/\E2 (.val (.int .i64 w.t5)) (.val (.int .i64 x.t5))/\True)/\(True)
def nat_cmp_sk(p0:Sl)(p1:Sl)(V:View)(R:Value->View->Prop)(I0:Unit->L_nat_cmp_0->View->Prop)(E0:Unit->L_nat_cmp_0->View->Prop)(B0:Unit->L_nat_cmp_0->View->L_nat_cmp_0->View->Prop):Prop :=
 ((((p0.len:Int):Int) != (p1.len:Int))=true ->
 ((decide (((p0.len:Int):Int)<(p1.len:Int)))=true ->
 R (.int .i64 (-1)) V) /\
 ((decide (((p0.len:Int):Int)<(p1.len:Int)))=false ->
 R (.int .i64 1) V)) /\
 ((((p0.len:Int):Int) != (p1.len:Int))=false ->
 E0 () (L_nat_cmp_0.mk (i64.wrap ((p0.len:Int)-1))) V /\
 (∀(x2:L_nat_cmp_0) (V1:View),View.le V V1->I0 () x2 V1 ->
 ((decide ((x2.t5:Int)>=0))=true ->
 ((0:Int)<=x2.t5/\(x2.t5:Int)<(p0.len:Nat)/\Option.isSome p0.a=true) /\
 ∃x3:Int,View.load V1 (Option.map (λq=>Addr.add q (Int.toNat x2.t5*1)) p0.a)=some (.int .u32 x3) /\
 ((0:Int)<=x2.t5/\(x2.t5:Int)<(p1.len:Nat)/\Option.isSome p1.a=true) /\
 ∃x4:Int,View.load V1 (Option.map (λq=>Addr.add q (Int.toNat x2.t5*1)) p1.a)=some (.int .u32 x4) /\
 ((decide ((x3:Int)<x4))=true ->
 R (.int .i64 (-1)) V1) /\
 ((decide ((x3:Int)<x4))=false ->
 ((0:Int)<=x2.t5/\(x2.t5:Int)<(p0.len:Nat)/\Option.isSome p0.a=true) /\
 ∃x5:Int,View.load V1 (Option.map (λq=>Addr.add q (Int.toNat x2.t5*1)) p0.a)=some (.int .u32 x5) /\
 ((0:Int)<=x2.t5/\(x2.t5:Int)<(p1.len:Nat)/\Option.isSome p1.a=true) /\
 ∃x6:Int,View.load V1 (Option.map (λq=>Addr.add q (Int.toNat x2.t5*1)) p1.a)=some (.int .u32 x6) /\
 ((decide ((x5:Int)>x6))=true ->
 R (.int .i64 1) V1) /\
 ((decide ((x5:Int)>x6))=false ->
 B0 () (L_nat_cmp_0.mk (i64.wrap (x2.t5-1))) V1 x2 V1))) /\
 ((decide ((x2.t5:Int)>=0))=false ->
 R (.int .i64 0) V1)))
theorem nat_cmp_v0(p0:Sl)(p1:Sl)(V:View)(R:Value->View->Prop)(I0:Unit->L_nat_cmp_0->View->Prop)(J0:Unit->L_nat_cmp_0->View->Nat){X:Prop}(e:nat_cmp_sk p0 p1 V R I0 I0 (λc w V x U=>I0 c w V/\J0 c w V<J0 c x U)=X)(h:X) :
 CallV Try.prog 23 #[p0.v,p1.v] V R :=
 calls_of_vc (Shp:=Shp) hmixed Try.func23 (c:=Try.f23.body.getD .skip) (args:=[p0.v,p1.v]) (by kernel_rfl)
 (.seq (.reg [A 4 2]) (.seq (.seq (.reg [A 6 2,A 7 0,A 8 2,A 9 0,A 10 0]) (.cond (.seq (.seq (.reg [A 11 2,A 12 0,A 13 2,A 14 0,A 15 0]) (.cond (.seq (.reg [A 4 2]) .leaf) .leaf)) (.seq (.reg [A 4 2]) .leaf)) .leaf)) (.seq (.seq (.reg [A 16 2,A 17 0,A 18 0,A 5 2]) (.block (.loop Unit L_nat_cmp_0 (λ_=>()) (λc x=>{ tm:=spT 41 0 [(0,.val p0.v),(1,.val p1.v),(5,.val (.int .i64 x.t5))],own:=spO 41 0 [] }) I0 J0 (.seq (.seq (.reg [A 19 2,A 20 0]) (.cond .leaf .leaf)) (.seq (.block (.seq (.seq (.draw [(0,A 23 2),(1,A 24 2),(2,A 25 7),(3,A 26 5),(4,A 27 2),(5,A 28 2),(6,A 29 7),(7,A 30 5),(8,A 31 0)] [0,0,3,7,0,0,48,112,255]) (.cond (.seq (.reg [A 4 2]) .leaf) .leaf)) (.seq (.draw [(0,A 32 2),(1,A 33 2),(2,A 34 7),(3,A 35 5),(4,A 36 2),(5,A 37 2),(6,A 38 7),(7,A 39 5),(8,A 40 0)] [0,0,3,7,0,0,48,112,255]) (.cond (.seq (.reg [A 4 2]) .leaf) .leaf)))) (.reg [A 21 2,A 22 0,A 5 2])))))) (.seq (.reg [A 4 2]) .leaf))))
 (Eq.mpr (by kernel_rfl) (show nat_cmp_sk p0 p1 V R I0 (λc w V=>∃x,nat_cmp_f0 p0 p1 c w x/\I0 c x V) (λc w V y U=>∃x,nat_cmp_f0 p0 p1 c w x/\I0 c x V/\J0 c x V<J0 c y U)from by
 have h:=Eq.mpr e h; unfold nat_cmp_sk at h ⊢; have Ee0:=λc w V (h:I0 c w V)=>(⟨w,⟨⟨rfl,rfl,rfl,trivial⟩,trivial⟩,h⟩:∃x,nat_cmp_f0 p0 p1 c w x/\I0 c x V); have Bb0:=λc w V y U (h:I0 c w V/\J0 c w V<J0 c y U)=>(⟨w,⟨⟨rfl,rfl,rfl,trivial⟩,trivial⟩,h⟩:∃x,nat_cmp_f0 p0 p1 c w x/\I0 c x V/\J0 c x V<J0 c y U); exact⟨λh15=>⟨λh1=>((h.1 h15).1 h1),λh1=>((h.1 h15).2 h1)⟩,λh15=>⟨(Ee0 _ _ _ (h.2 h15).1),λx2 V1 h13 h14=>⟨λh12=>⟨(((h.2 h15).2 x2 V1 h13 h14).1 h12).1,(match (((h.2 h15).2 x2 V1 h13 h14).1 h12).2 with|⟨x3,h11,h10⟩=>⟨x3,h11,⟨h10.1,(match h10.2 with|⟨x4,h9,h8⟩=>⟨x4,h9,⟨λh7=>(h8.1 h7),λh7=>⟨(h8.2 h7).1,(match (h8.2 h7).2 with|⟨x5,h6,h5⟩=>⟨x5,h6,⟨h5.1,(match h5.2 with|⟨x6,h4,h3⟩=>⟨x6,h4,⟨λh2=>(h3.1 h2),λh2=>(Bb0 _ _ _ _ _ (h3.2 h2))⟩⟩)⟩⟩)⟩⟩⟩)⟩⟩)⟩,λh12=>(((h.2 h15).2 x2 V1 h13 h14).2 h12)⟩⟩⟩))
theorem nat_cmp_vc:type_of% (λp0 p1 V R I0 J0=>nat_cmp_v0 p0 p1 V R I0 J0 (nat_cmp_sk.eq_1 ..)):=λp0 p1 V R I0 J0=>nat_cmp_v0 p0 p1 V R I0 J0 (nat_cmp_sk.eq_1 ..)
structure L_nat_add_0 where(t0 t1:Sl)
structure L_nat_add_1 where(t6 t22:Int)(o19:List Value)
structure C_nat_add_1 where(t0 t1:Sl)(t5l t5c:Nat)(t21:Int)
def nat_add_f0 (_c:Unit)(w x:L_nat_add_0):Prop:=(E2 (.val w.t0.v) (.val x.t0.v)/\E2 (.val w.t1.v) (.val x.t1.v)/\True)/\(True)
def nat_add_f1 (c:C_nat_add_1)(w x:L_nat_add_1):Prop:=(Q1 (.val c.t0.v)/\Q1 (.val c.t1.v)/\Q1 (.osl 19 0 c.t5l c.t5c)/\E2 (.val (.int .u32 w.t6)) (.val (.int .u32 x.t6))/\Q1 (.val (.int .i64 c.t21))/\E2 (.val (.int .i64 w.t22)) (.val (.int .i64 x.t22))/\True)/\(O2 ⟨71,.dyn w.o19⟩ ⟨71,.dyn x.o19⟩/\True)
def nat_add_sk(p0:Sl)(p1:Sl)(V:View)(R:Value->View->Prop)(I0:Unit->L_nat_add_0->View->Prop)(I1:C_nat_add_1->L_nat_add_1->View->Prop)(E0:Unit->L_nat_add_0->View->Prop)(E1:C_nat_add_1->L_nat_add_1->View->Prop)(B1:C_nat_add_1->L_nat_add_1->View->L_nat_add_1->View->Prop):Prop :=
 (((decide (((p0.len:Int):Int)<(p1.len:Int)))=true ->
 E0 () (L_nat_add_0.mk p1 p0) V) /\
 ((decide (((p0.len:Int):Int)<(p1.len:Int)))=false ->
 E0 () (L_nat_add_0.mk p0 p1) V)) /\
 (∀(x1:L_nat_add_0) (V1:View),View.le V V1->I0 () x1 V1 ->
 ((0:Int)<=(i64.wrap ((x1.t0.len:Int)+1))/\((i64.wrap ((x1.t0.len:Int)+1)):Int)<=(i64.wrap ((x1.t0.len:Int)+1))/\(4:Int)*(i64.wrap ((x1.t0.len:Int)+1))<=281474976710656/\((i64.wrap ((x1.t0.len:Int)+1)):Int)<=9223372036854775807) /\
 E1 (C_nat_add_1.mk x1.t0 x1.t1 (Int.toNat (i64.wrap ((x1.t0.len:Int)+1))) (Int.toNat (i64.wrap ((x1.t0.len:Int)+1))) (x1.t0.len:Int)) (L_nat_add_1.mk 0 0 ((List.replicate (Int.toNat (i64.wrap ((x1.t0.len:Int)+1))) [Value.int .u32 0]).flatten)) V1 /\
 (∀(x5:L_nat_add_1) (V2:View),View.le V1 V2->I1 (C_nat_add_1.mk x1.t0 x1.t1 (Int.toNat (i64.wrap ((x1.t0.len:Int)+1))) (Int.toNat (i64.wrap ((x1.t0.len:Int)+1))) (x1.t0.len:Int)) x5 V2 ->
 ((decide ((x5.t22:Int)<(x1.t0.len:Int)))=true ->
 ((decide ((x5.t22:Int)<(x1.t1.len:Int)))=true ->
 ((0:Int)<=x5.t22/\(x5.t22:Int)<(x1.t1.len:Nat)/\Option.isSome x1.t1.a=true) /\
 ∃x6:Int,View.load V2 (Option.map (λq=>Addr.add q (Int.toNat x5.t22*1)) x1.t1.a)=some (.int .u32 x6) /\
 ((0:Int)<=x5.t22/\(x5.t22:Int)<(x1.t0.len:Nat)/\Option.isSome x1.t0.a=true) /\
 ∃x7:Int,View.load V2 (Option.map (λq=>Addr.add q (Int.toNat x5.t22*1)) x1.t0.a)=some (.int .u32 x7) /\
 CallV Try.prog 53 #[.int .u32 x7,.int .u32 x6,.int .u32 x5.t6] V2 λv V3=>∃(r1:Int) (r2:Int),v = .tuple #[.int .u32 r1,.int .u32 r2] /\
 ((0:Int)<=x5.t22/\(x5.t22:Int)<(Int.toNat (i64.wrap ((x1.t0.len:Int)+1)):Nat)) /\
 0+Int.toNat x5.t22*1+1<=List.length x5.o19 /\
 B1 (C_nat_add_1.mk x1.t0 x1.t1 (Int.toNat (i64.wrap ((x1.t0.len:Int)+1))) (Int.toNat (i64.wrap ((x1.t0.len:Int)+1))) (x1.t0.len:Int)) (L_nat_add_1.mk r2 (i64.wrap (x5.t22+1)) (List.set x5.o19 (0+Int.toNat x5.t22*1) (.int .u32 r1))) V3 x5 V2) /\
 ((decide ((x5.t22:Int)<(x1.t1.len:Int)))=false ->
 ((0:Int)<=x5.t22/\(x5.t22:Int)<(x1.t0.len:Nat)/\Option.isSome x1.t0.a=true) /\
 ∃x9:Int,View.load V2 (Option.map (λq=>Addr.add q (Int.toNat x5.t22*1)) x1.t0.a)=some (.int .u32 x9) /\
 CallV Try.prog 53 #[.int .u32 x9,.int .u32 0,.int .u32 x5.t6] V2 λv V4=>∃(r3:Int) (r4:Int),v = .tuple #[.int .u32 r3,.int .u32 r4] /\
 ((0:Int)<=x5.t22/\(x5.t22:Int)<(Int.toNat (i64.wrap ((x1.t0.len:Int)+1)):Nat)) /\
 0+Int.toNat x5.t22*1+1<=List.length x5.o19 /\
 B1 (C_nat_add_1.mk x1.t0 x1.t1 (Int.toNat (i64.wrap ((x1.t0.len:Int)+1))) (Int.toNat (i64.wrap ((x1.t0.len:Int)+1))) (x1.t0.len:Int)) (L_nat_add_1.mk r4 (i64.wrap (x5.t22+1)) (List.set x5.o19 (0+Int.toNat x5.t22*1) (.int .u32 r3))) V4 x5 V2)) /\
 ((decide ((x5.t22:Int)<(x1.t0.len:Int)))=false ->
 ((0:Int)<=(x1.t0.len:Int)/\((x1.t0.len:Int):Int)<(Int.toNat (i64.wrap ((x1.t0.len:Int)+1)):Nat)) /\
 0+Int.toNat (x1.t0.len:Int)*1+1<=List.length x5.o19 /\
 ∀(b1:Nat) (V5:View),View.le V2 V5->V5 b1=some (List.toArray (List.set x5.o19 (0+Int.toNat (x1.t0.len:Int)*1) (.int .u32 x5.t6))) ->
 CallV Try.prog 47 #[(Sl.mk (some (Addr.mk b1 0 none)) (Int.toNat (i64.wrap ((x1.t0.len:Int)+1))) (Int.toNat (i64.wrap ((x1.t0.len:Int)+1)))).v] V5 λv V6=>∃r5:Sl,v=r5.v /\
 R (r5.v) V6)))
theorem nat_add_v0(p0:Sl)(p1:Sl)(V:View)(R:Value->View->Prop)(I0:Unit->L_nat_add_0->View->Prop)(I1:C_nat_add_1->L_nat_add_1->View->Prop)(J1:C_nat_add_1->L_nat_add_1->View->Nat){X:Prop}(e:nat_add_sk p0 p1 V R I0 I1 I0 I1 (λc w V x U=>I1 c w V/\J1 c w V<J1 c x U)=X)(h:X) :
 CallV Try.prog 42 #[p0.v,p1.v] V R :=
 calls_of_vc (Shp:=Shp) hmixed Try.func42 (c:=Try.f42.body.getD .skip) (args:=[p0.v,p1.v]) (by kernel_rfl)
 (.seq (.reg [A 4 2]) (.cut Unit L_nat_add_0 (λ_=>()) (λc x=>{ tm:=spT 54 0 [(0,.val x.t0.v),(1,.val x.t1.v)],own:=spO 54 0 [] }) I0 (.seq (.reg [A 9 2,A 10 0,A 11 2,A 12 0,A 13 0]) (.cond (.reg [A 14 2,A 15 2,A 0 2,A 1 2]) .leaf)) (.seq (.reg [A 16 2,A 17 0,A 18 0,A 19 3,A 5 2]) (.seq (.reg [A 6 2]) (.seq (.seq (.reg [A 20 2,A 21 0,A 22 2]) (.block (.loop C_nat_add_1 L_nat_add_1 (λσ=>C_nat_add_1.mk (Sl.mk (gSlA (gTm σ 0)) (gSlL (gTm σ 0)) (gSlC (gTm σ 0))) (Sl.mk (gSlA (gTm σ 1)) (gSlL (gTm σ 1)) (gSlC (gTm σ 1))) (gLen (gTm σ 5)) (gCap (gTm σ 5)) (gInt (gTm σ 21))) (λc x=>{ tm:=spT 54 0 [(0,.val c.t0.v),(1,.val c.t1.v),(5,.osl 19 0 c.t5l c.t5c),(6,.val (.int .u32 x.t6)),(21,.val (.int .i64 c.t21)),(22,.val (.int .i64 x.t22))],own:=spO 54 0 [(19,⟨71,.dyn x.o19⟩)] }) I1 J1 (.seq (.reg [A 23 0]) (.seq (.cond .leaf .leaf) (.seq (.block (.seq (.reg [A 24 2,A 7 2]) (.seq (.reg [A 8 2]) (.seq (.seq (.reg [A 25 2,A 26 2,A 27 0,A 28 0]) (.cond (.reg [A 29 2,A 30 2,A 31 7,A 32 5,A 8 2]) .leaf)) (.reg [A 34 2,A 35 2,A 36 2,A 37 2,A 38 7,A 39 5,A 40 2,A 41 2,A 42 10,A 33 2,A 43 0,A 44 0,A 45 7,A 19 6,A 6 2]))))) (.reg [A 46 0,A 22 2]))))))) (.seq (.reg [A 47 2,A 48 2,A 49 0,A 50 2,A 51 7,A 19 6]) (.seq (.pub 19 (.reg [A 52 2,A 53 10,A 4 2])) .leaf)))))))
 (Eq.mpr (by kernel_rfl) (show nat_add_sk p0 p1 V R I0 I1 (λc w V=>∃x,nat_add_f0  c w x/\I0 c x V) (λc w V=>∃x,nat_add_f1  c w x/\I1 c x V) (λc w V y U=>∃x,nat_add_f1  c w x/\I1 c x V/\J1 c x V<J1 c y U)from by
 have h:=Eq.mpr e h; unfold nat_add_sk at h ⊢; have Ee0:=λc w V (h:I0 c w V)=>(⟨w,⟨⟨rfl,rfl,trivial⟩,trivial⟩,h⟩:∃x,nat_add_f0  c w x/\I0 c x V); have Ee1:=λc w V (h:I1 c w V)=>(⟨w,⟨⟨rfl,rfl,rfl,rfl,rfl,rfl,trivial⟩,⟨rfl,trivial⟩⟩,h⟩:∃x,nat_add_f1  c w x/\I1 c x V); have Bb1:=λc w V y U (h:I1 c w V/\J1 c w V<J1 c y U)=>(⟨w,⟨⟨rfl,rfl,rfl,rfl,rfl,rfl,trivial⟩,⟨rfl,trivial⟩⟩,h⟩:∃x,nat_add_f1  c w x/\I1 c x V/\J1 c x V<J1 c y U); exact⟨⟨λh1=>(Ee0 _ _ _ (h.1.1 h1)),λh1=>(Ee0 _ _ _ (h.1.2 h1))⟩,λx1 V1 h20 h21=>⟨(h.2 x1 V1 h20 h21).1,⟨(Ee1 _ _ _ (h.2 x1 V1 h20 h21).2.1),λx5 V2 h18 h19=>⟨λh17=>⟨λh12=>⟨((((h.2 x1 V1 h20 h21).2.2 x5 V2 h18 h19).1 h17).1 h12).1,(match ((((h.2 x1 V1 h20 h21).2.2 x5 V2 h18 h19).1 h17).1 h12).2 with|⟨x6,h7,h6⟩=>⟨x6,h7,⟨h6.1,(match h6.2 with|⟨x7,h5,h4⟩=>⟨x7,h5,(CallV.mono h4 (λ_ _ _ ⟨r1,r2,h3,h2⟩=>⟨r1,r2,h3,⟨h2.1,⟨h2.2.1,(Bb1 _ _ _ _ _ h2.2.2)⟩⟩⟩))⟩)⟩⟩)⟩,λh12=>⟨((((h.2 x1 V1 h20 h21).2.2 x5 V2 h18 h19).1 h17).2 h12).1,(match ((((h.2 x1 V1 h20 h21).2.2 x5 V2 h18 h19).1 h17).2 h12).2 with|⟨x9,h11,h10⟩=>⟨x9,h11,(CallV.mono h10 (λ_ _ _ ⟨r3,r4,h9,h8⟩=>⟨r3,r4,h9,⟨h8.1,⟨h8.2.1,(Bb1 _ _ _ _ _ h8.2.2)⟩⟩⟩))⟩)⟩⟩,λh17=>⟨(((h.2 x1 V1 h20 h21).2.2 x5 V2 h18 h19).2 h17).1,⟨(((h.2 x1 V1 h20 h21).2.2 x5 V2 h18 h19).2 h17).2.1,(λb1 V5 h15 h16=>(CallV.mono ((((h.2 x1 V1 h20 h21).2.2 x5 V2 h18 h19).2 h17).2.2 b1 V5 h15 h16) (λ_ _ _ ⟨r5,h14,h13⟩=>⟨r5,h14,h13⟩)))⟩⟩⟩⟩⟩⟩))
theorem nat_add_vc:type_of% (λp0 p1 V R I0 I1 J1=>nat_add_v0 p0 p1 V R I0 I1 J1 (nat_add_sk.eq_1 ..)):=λp0 p1 V R I0 I1 J1=>nat_add_v0 p0 p1 V R I0 I1 J1 (nat_add_sk.eq_1 ..)
theorem bits_Add32_vc(p0:Int)(p1:Int)(p2:Int)(V:View)(R:Value->View->Prop)
 (h :
 R (.tuple #[.int .u32 (u32.wrap (u64.wrap ((u64.wrap ((u64.wrap p0)+(u64.wrap p1)))+(u64.wrap p2)))),.int .u32 (u32.wrap (Int.fdiv (u64.wrap ((u64.wrap ((u64.wrap p0)+(u64.wrap p1)))+(u64.wrap p2))) (2^(min (Int.toNat 32) (u64.bits)))))]) V) :
 CallV Try.prog 53 #[.int .u32 p0,.int .u32 p1,.int .u32 p2] V R :=
 calls_of_vc (Shp:=Shp) hmixed Try.func53 (c:=Try.f53.body.getD .skip) (args:=[.int .u32 p0,.int .u32 p1,.int .u32 p2]) (by kernel_rfl)
 (.seq (.reg [A 6 2,A 7 2]) (.seq (.reg [A 9 2,A 10 0,A 11 2,A 12 0,A 13 0,A 14 2,A 15 0,A 16 0,A 8 2]) (.seq (.reg [A 17 2,A 18 0,A 6 2]) (.seq (.reg [A 19 2,A 20 0,A 21 0,A 7 2]) .leaf))))
 (Eq.mpr (by kernel_rfl) h)
theorem bits_Sub32_vc(p0:Int)(p1:Int)(p2:Int)(V:View)(R:Value->View->Prop)
 (h :
 R (.tuple #[.int .u32 (u32.wrap ((u32.wrap (p0-p1))-p2)),.int .u32 (Int.fdiv (u32.wrap (BitVec.toNat ((BitVec.ofInt u32.bits (u32.wrap (BitVec.toNat ((BitVec.ofInt u32.bits (u32.wrap (BitVec.toNat ((BitVec.ofInt u32.bits u32.max) ^^^ (BitVec.ofInt u32.bits p0))))) &&& (BitVec.ofInt u32.bits p1))))) ||| (BitVec.ofInt u32.bits (u32.wrap (BitVec.toNat ((BitVec.ofInt u32.bits (u32.wrap (BitVec.toNat ((BitVec.ofInt u32.bits u32.max) ^^^ (BitVec.ofInt u32.bits (u32.wrap (BitVec.toNat ((BitVec.ofInt u32.bits p0) ^^^ (BitVec.ofInt u32.bits p1))))))))) &&& (BitVec.ofInt u32.bits (u32.wrap ((u32.wrap (p0-p1))-p2)))))))))) (2^(min (Int.toNat 31) (u32.bits))))]) V) :
 CallV Try.prog 54 #[.int .u32 p0,.int .u32 p1,.int .u32 p2] V R :=
 calls_of_vc (Shp:=Shp) hmixed Try.func54 (c:=Try.f54.body.getD .skip) (args:=[.int .u32 p0,.int .u32 p1,.int .u32 p2]) (by kernel_rfl)
 (.seq (.reg [A 6 2,A 7 2]) (.seq (.reg [A 8 2,A 9 2,A 10 0,A 11 2,A 12 0,A 6 2]) (.seq (.reg [A 13 2,A 14 0,A 15 2,A 16 0,A 17 2,A 18 2,A 19 0,A 20 0,A 21 2,A 22 0,A 23 0,A 24 0,A 7 2]) .leaf)))
 (Eq.mpr (by kernel_rfl) h)
structure L_nat_sub_0 where(t6 t14:Int)(o11:List Value)
def nat_sub_f0(p0:Sl)(p1:Sl)(_c:Unit)(w x:L_nat_sub_0):Prop:=(Q1 (.val p0.v)/\Q1 (.val p1.v)/\Q1 (.osl 11 0 (Int.toNat (p0.len:Int)) (Int.toNat (p0.len:Int)))/\E2 (.val (.int .u32 w.t6)) (.val (.int .u32 x.t6))/\Q1 (.val (.int .i64 (p0.len:Int)))/\E2 (.val (.int .i64 w.t14)) (.val (.int .i64 x.t14))/\True)/\(O2 ⟨71,.dyn w.o11⟩ ⟨71,.dyn x.o11⟩/\True)
def nat_sub_sk(p0:Sl)(p1:Sl)(V:View)(R:Value->View->Prop)(I0:Unit->L_nat_sub_0->View->Prop)(E0:Unit->L_nat_sub_0->View->Prop)(B0:Unit->L_nat_sub_0->View->L_nat_sub_0->View->Prop):Prop :=
 ((0:Int)<=(p0.len:Int)/\((p0.len:Int):Int)<=(p0.len:Int)/\(4:Int)*(p0.len:Int)<=281474976710656/\((p0.len:Int):Int)<=9223372036854775807) /\
 E0 () (L_nat_sub_0.mk 0 0 ((List.replicate (Int.toNat (p0.len:Int)) [Value.int .u32 0]).flatten)) V /\
 (∀(x2:L_nat_sub_0) (V1:View),View.le V V1->I0 () x2 V1 ->
 ((decide ((x2.t14:Int)<(p0.len:Int)))=true ->
 ((decide ((x2.t14:Int)<(p1.len:Int)))=true ->
 ((0:Int)<=x2.t14/\(x2.t14:Int)<(p1.len:Nat)/\Option.isSome p1.a=true) /\
 ∃x3:Int,View.load V1 (Option.map (λq=>Addr.add q (Int.toNat x2.t14*1)) p1.a)=some (.int .u32 x3) /\
 ((0:Int)<=x2.t14/\(x2.t14:Int)<(p0.len:Nat)/\Option.isSome p0.a=true) /\
 ∃x4:Int,View.load V1 (Option.map (λq=>Addr.add q (Int.toNat x2.t14*1)) p0.a)=some (.int .u32 x4) /\
 CallV Try.prog 54 #[.int .u32 x4,.int .u32 x3,.int .u32 x2.t6] V1 λv V2=>∃(r1:Int) (r2:Int),v = .tuple #[.int .u32 r1,.int .u32 r2] /\
 ((0:Int)<=x2.t14/\(x2.t14:Int)<(Int.toNat (p0.len:Int):Nat)) /\
 0+Int.toNat x2.t14*1+1<=List.length x2.o11 /\
 B0 () (L_nat_sub_0.mk r2 (i64.wrap (x2.t14+1)) (List.set x2.o11 (0+Int.toNat x2.t14*1) (.int .u32 r1))) V2 x2 V1) /\
 ((decide ((x2.t14:Int)<(p1.len:Int)))=false ->
 ((0:Int)<=x2.t14/\(x2.t14:Int)<(p0.len:Nat)/\Option.isSome p0.a=true) /\
 ∃x6:Int,View.load V1 (Option.map (λq=>Addr.add q (Int.toNat x2.t14*1)) p0.a)=some (.int .u32 x6) /\
 CallV Try.prog 54 #[.int .u32 x6,.int .u32 0,.int .u32 x2.t6] V1 λv V3=>∃(r3:Int) (r4:Int),v = .tuple #[.int .u32 r3,.int .u32 r4] /\
 ((0:Int)<=x2.t14/\(x2.t14:Int)<(Int.toNat (p0.len:Int):Nat)) /\
 0+Int.toNat x2.t14*1+1<=List.length x2.o11 /\
 B0 () (L_nat_sub_0.mk r4 (i64.wrap (x2.t14+1)) (List.set x2.o11 (0+Int.toNat x2.t14*1) (.int .u32 r3))) V3 x2 V1)) /\
 ((decide ((x2.t14:Int)<(p0.len:Int)))=false ->
 ∀(b1:Nat) (V4:View),View.le V1 V4->V4 b1=some (List.toArray x2.o11) ->
 CallV Try.prog 47 #[(Sl.mk (some (Addr.mk b1 0 none)) (Int.toNat (p0.len:Int)) (Int.toNat (p0.len:Int))).v] V4 λv V5=>∃r5:Sl,v=r5.v /\
 R (r5.v) V5))
theorem nat_sub_v0(p0:Sl)(p1:Sl)(V:View)(R:Value->View->Prop)(I0:Unit->L_nat_sub_0->View->Prop)(J0:Unit->L_nat_sub_0->View->Nat){X:Prop}(e:nat_sub_sk p0 p1 V R I0 I0 (λc w V x U=>I0 c w V/\J0 c w V<J0 c x U)=X)(h:X) :
 CallV Try.prog 43 #[p0.v,p1.v] V R :=
 calls_of_vc (Shp:=Shp) hmixed Try.func43 (c:=Try.f43.body.getD .skip) (args:=[p0.v,p1.v]) (by kernel_rfl)
 (.seq (.reg [A 4 2]) (.seq (.reg [A 9 2,A 10 0,A 11 3,A 5 2]) (.seq (.reg [A 6 2]) (.seq (.seq (.reg [A 12 2,A 13 0,A 14 2]) (.block (.loop Unit L_nat_sub_0 (λ_=>()) (λc x=>{ tm:=spT 41 0 [(0,.val p0.v),(1,.val p1.v),(5,.osl 11 0 (Int.toNat (p0.len:Int)) (Int.toNat (p0.len:Int))),(6,.val (.int .u32 x.t6)),(13,.val (.int .i64 (p0.len:Int))),(14,.val (.int .i64 x.t14))],own:=spO 41 0 [(11,⟨71,.dyn x.o11⟩)] }) I0 J0 (.seq (.reg [A 15 0]) (.seq (.cond .leaf .leaf) (.seq (.block (.seq (.reg [A 16 2,A 7 2]) (.seq (.reg [A 8 2]) (.seq (.seq (.reg [A 17 2,A 18 2,A 19 0,A 20 0]) (.cond (.reg [A 21 2,A 22 2,A 23 7,A 24 5,A 8 2]) .leaf)) (.reg [A 26 2,A 27 2,A 28 2,A 29 2,A 30 7,A 31 5,A 32 2,A 33 2,A 34 10,A 25 2,A 35 0,A 36 0,A 37 7,A 11 6,A 6 2]))))) (.reg [A 38 0,A 14 2]))))))) (.seq (.pub 11 (.reg [A 39 2,A 40 10,A 4 2])) .leaf)))))
 (Eq.mpr (by kernel_rfl) (show nat_sub_sk p0 p1 V R I0 (λc w V=>∃x,nat_sub_f0 p0 p1 c w x/\I0 c x V) (λc w V y U=>∃x,nat_sub_f0 p0 p1 c w x/\I0 c x V/\J0 c x V<J0 c y U)from by
 have h:=Eq.mpr e h; unfold nat_sub_sk at h ⊢; have Ee0:=λc w V (h:I0 c w V)=>(⟨w,⟨⟨rfl,rfl,rfl,rfl,rfl,rfl,trivial⟩,⟨rfl,trivial⟩⟩,h⟩:∃x,nat_sub_f0 p0 p1 c w x/\I0 c x V); have Bb0:=λc w V y U (h:I0 c w V/\J0 c w V<J0 c y U)=>(⟨w,⟨⟨rfl,rfl,rfl,rfl,rfl,rfl,trivial⟩,⟨rfl,trivial⟩⟩,h⟩:∃x,nat_sub_f0 p0 p1 c w x/\I0 c x V/\J0 c x V<J0 c y U); exact⟨h.1,⟨(Ee0 _ _ _ h.2.1),λx2 V1 h17 h18=>⟨λh16=>⟨λh11=>⟨(((h.2.2 x2 V1 h17 h18).1 h16).1 h11).1,(match (((h.2.2 x2 V1 h17 h18).1 h16).1 h11).2 with|⟨x3,h6,h5⟩=>⟨x3,h6,⟨h5.1,(match h5.2 with|⟨x4,h4,h3⟩=>⟨x4,h4,(CallV.mono h3 (λ_ _ _ ⟨r1,r2,h2,h1⟩=>⟨r1,r2,h2,⟨h1.1,⟨h1.2.1,(Bb0 _ _ _ _ _ h1.2.2)⟩⟩⟩))⟩)⟩⟩)⟩,λh11=>⟨(((h.2.2 x2 V1 h17 h18).1 h16).2 h11).1,(match (((h.2.2 x2 V1 h17 h18).1 h16).2 h11).2 with|⟨x6,h10,h9⟩=>⟨x6,h10,(CallV.mono h9 (λ_ _ _ ⟨r3,r4,h8,h7⟩=>⟨r3,r4,h8,⟨h7.1,⟨h7.2.1,(Bb0 _ _ _ _ _ h7.2.2)⟩⟩⟩))⟩)⟩⟩,λh16=>(λb1 V4 h14 h15=>(CallV.mono (((h.2.2 x2 V1 h17 h18).2 h16) b1 V4 h14 h15) (λ_ _ _ ⟨r5,h13,h12⟩=>⟨r5,h13,h12⟩)))⟩⟩⟩))
theorem nat_sub_vc:type_of% (λp0 p1 V R I0 J0=>nat_sub_v0 p0 p1 V R I0 J0 (nat_sub_sk.eq_1 ..)):=λp0 p1 V R I0 J0=>nat_sub_v0 p0 p1 V R I0 J0 (nat_sub_sk.eq_1 ..)
structure L_nat_mul_0 where(u:Unit)
structure L_nat_mul_1 where(t27:Int)(o24:List Value)
structure L_nat_mul_2 where(t8 t34:Int)(o24:List Value)
structure C_nat_mul_2 where(t6 t7 t27:Int)
def nat_mul_f0(p0:Sl)(p1:Sl)(_c:Unit)(_w _x:L_nat_mul_0):Prop:=(Q1 (.val p0.v)/\Q1 (.val p1.v)/\True)/\(True)
def nat_mul_f1(p0:Sl)(p1:Sl)(_c:Unit)(w x:L_nat_mul_1):Prop:=(Q1 (.val p1.v)/\Q1 (.osl 24 0 (Int.toNat (i64.wrap ((p0.len:Int)+(p1.len:Int)))) (Int.toNat (i64.wrap ((p0.len:Int)+(p1.len:Int)))))/\Q1 (.val p0.v)/\Q1 (.val (.int .i64 (p0.len:Int)))/\E2 (.val (.int .i64 w.t27)) (.val (.int .i64 x.t27))/\True)/\(O2 ⟨71,.dyn w.o24⟩ ⟨71,.dyn x.o24⟩/\True)
def nat_mul_f2(p0:Sl)(p1:Sl)(c:C_nat_mul_2)(w x:L_nat_mul_2):Prop:=(Q1 (.val p1.v)/\Q1 (.osl 24 0 (Int.toNat (i64.wrap ((p0.len:Int)+(p1.len:Int)))) (Int.toNat (i64.wrap ((p0.len:Int)+(p1.len:Int)))))/\Q1 (.val (.int .i64 c.t6))/\Q1 (.val (.int .u32 c.t7))/\E2 (.val (.int .u64 w.t8)) (.val (.int .u64 x.t8))/\Q1 (.val p0.v)/\Q1 (.val (.int .i64 (p0.len:Int)))/\Q1 (.val (.int .i64 c.t27))/\Q1 (.val p1.v)/\Q1 (.val (.int .i64 (p1.len:Int)))/\E2 (.val (.int .i64 w.t34)) (.val (.int .i64 x.t34))/\True)/\(O2 ⟨71,.dyn w.o24⟩ ⟨71,.dyn x.o24⟩/\True)
def nat_mul_sk(p0:Sl)(p1:Sl)(V:View)(R:Value->View->Prop)(I0:Unit->L_nat_mul_0->View->Prop)(I1:Unit->L_nat_mul_1->View->Prop)(I2:C_nat_mul_2->L_nat_mul_2->View->Prop)(E0:Unit->L_nat_mul_0->View->Prop)(E1:Unit->L_nat_mul_1->View->Prop)(B1:Unit->L_nat_mul_1->View->L_nat_mul_1->View->Prop)(E2:C_nat_mul_2->L_nat_mul_2->View->Prop)(B2:C_nat_mul_2->L_nat_mul_2->View->L_nat_mul_2->View->Prop):Prop :=
 (((((p0.len:Int):Int)==0)=true ->
 (true=true ->
 R ((Sl.mk none 0 0).v) V) /\
 (true=false ->
 E0 () (L_nat_mul_0.mk ()) V)) /\
 ((((p0.len:Int):Int)==0)=false ->
 ((((p1.len:Int):Int)==0)=true ->
 R ((Sl.mk none 0 0).v) V) /\
 ((((p1.len:Int):Int)==0)=false ->
 E0 () (L_nat_mul_0.mk ()) V))) /\
 (∀(x1:L_nat_mul_0) (V1:View),View.le V V1->I0 () x1 V1 ->
 ((0:Int)<=(i64.wrap ((p0.len:Int)+(p1.len:Int)))/\((i64.wrap ((p0.len:Int)+(p1.len:Int))):Int)<=(i64.wrap ((p0.len:Int)+(p1.len:Int)))/\(4:Int)*(i64.wrap ((p0.len:Int)+(p1.len:Int)))<=281474976710656/\((i64.wrap ((p0.len:Int)+(p1.len:Int))):Int)<=9223372036854775807) /\
 E1 () (L_nat_mul_1.mk 0 ((List.replicate (Int.toNat (i64.wrap ((p0.len:Int)+(p1.len:Int)))) [Value.int .u32 0]).flatten)) V1 /\
 (∀(x5:L_nat_mul_1) (V2:View),View.le V1 V2->I1 () x5 V2 ->
 ((decide ((x5.t27:Int)<(p0.len:Int)))=true ->
 ((0:Int)<=x5.t27/\(x5.t27:Int)<(p0.len:Nat)/\Option.isSome p0.a=true) /\
 ∃x6:Int,View.load V2 (Option.map (λq=>Addr.add q (Int.toNat x5.t27*1)) p0.a)=some (.int .u32 x6) /\
 E2 (C_nat_mul_2.mk x5.t27 x6 x5.t27) (L_nat_mul_2.mk 0 0 x5.o24) V2 /\
 (∀(x8:L_nat_mul_2) (V3:View),View.le V2 V3->I2 (C_nat_mul_2.mk x5.t27 x6 x5.t27) x8 V3 ->
 ((decide ((x8.t34:Int)<(p1.len:Int)))=true ->
 ((0:Int)<=x8.t34/\(x8.t34:Int)<(p1.len:Nat)/\Option.isSome p1.a=true) /\
 ∃x9:Int,View.load V3 (Option.map (λq=>Addr.add q (Int.toNat x8.t34*1)) p1.a)=some (.int .u32 x9) /\
 ((0:Int)<=(i64.wrap (x5.t27+x8.t34))/\((i64.wrap (x5.t27+x8.t34)):Int)<(Int.toNat (i64.wrap ((p0.len:Int)+(p1.len:Int))):Nat)) /\
 ∃x10:Int,x8.o24[0+Int.toNat (i64.wrap (x5.t27+x8.t34))*1]?=some (.int .u32 x10) /\
 ((0:Int)<=(i64.wrap (x5.t27+x8.t34))/\((i64.wrap (x5.t27+x8.t34)):Int)<(Int.toNat (i64.wrap ((p0.len:Int)+(p1.len:Int))):Nat)) /\
 0+Int.toNat (i64.wrap (x5.t27+x8.t34))*1+1<=List.length x8.o24 /\
 B2 (C_nat_mul_2.mk x5.t27 x6 x5.t27) (L_nat_mul_2.mk (Int.fdiv (u64.wrap (x8.t8+(u64.wrap ((u64.wrap ((u64.wrap x6)*(u64.wrap x9)))+(u64.wrap x10))))) (2^(min (Int.toNat 32) (u64.bits)))) (i64.wrap (x8.t34+1)) (List.set x8.o24 (0+Int.toNat (i64.wrap (x5.t27+x8.t34))*1) (.int .u32 (u32.wrap (u64.wrap (x8.t8+(u64.wrap ((u64.wrap ((u64.wrap x6)*(u64.wrap x9)))+(u64.wrap x10))))))))) V3 x8 V3) /\
 ((decide ((x8.t34:Int)<(p1.len:Int)))=false ->
 ((0:Int)<=(i64.wrap (x5.t27+(p1.len:Int)))/\((i64.wrap (x5.t27+(p1.len:Int))):Int)<(Int.toNat (i64.wrap ((p0.len:Int)+(p1.len:Int))):Nat)) /\
 0+Int.toNat (i64.wrap (x5.t27+(p1.len:Int)))*1+1<=List.length x8.o24 /\
 B1 () (L_nat_mul_1.mk (i64.wrap (x5.t27+1)) (List.set x8.o24 (0+Int.toNat (i64.wrap (x5.t27+(p1.len:Int)))*1) (.int .u32 (u32.wrap x8.t8)))) V3 x5 V2))) /\
 ((decide ((x5.t27:Int)<(p0.len:Int)))=false ->
 ∀(b1:Nat) (V4:View),View.le V2 V4->V4 b1=some (List.toArray x5.o24) ->
 CallV Try.prog 47 #[(Sl.mk (some (Addr.mk b1 0 none)) (Int.toNat (i64.wrap ((p0.len:Int)+(p1.len:Int)))) (Int.toNat (i64.wrap ((p0.len:Int)+(p1.len:Int))))).v] V4 λv V5=>∃r1:Sl,v=r1.v /\
 R (r1.v) V5)))
theorem nat_mul_v0(p0:Sl)(p1:Sl)(V:View)(R:Value->View->Prop)(I0:Unit->L_nat_mul_0->View->Prop)(I1:Unit->L_nat_mul_1->View->Prop)(J1:Unit->L_nat_mul_1->View->Nat)(I2:C_nat_mul_2->L_nat_mul_2->View->Prop)(J2:C_nat_mul_2->L_nat_mul_2->View->Nat){X:Prop}(e:nat_mul_sk p0 p1 V R I0 I1 I2 I0 I1 (λc w V x U=>I1 c w V/\J1 c w V<J1 c x U) I2 (λc w V x U=>I2 c w V/\J2 c w V<J2 c x U)=X)(h:X) :
 CallV Try.prog 29 #[p0.v,p1.v] V R :=
 calls_of_vc (Shp:=Shp) hmixed Try.func29 (c:=Try.f29.body.getD .skip) (args:=[p0.v,p1.v]) (by kernel_rfl)
 (.seq (.reg [A 4 2]) (.cut Unit L_nat_mul_0 (λ_=>()) (λc x=>{ tm:=spT 75 0 [(0,.val p0.v),(1,.val p1.v)],own:=spO 75 0 [] }) I0 (.seq (.reg [A 11 2,A 12 0,A 13 0,⟨14,2,true⟩,A 15 2,A 16 0,A 17 0,A 18 2]) (.cond (.seq (.reg [A 4 2]) .leaf) .leaf)) (.seq (.reg [A 19 2,A 20 0,A 21 2,A 22 0,A 23 0,A 24 3,A 5 2]) (.seq (.seq (.reg [A 25 2,A 26 0,A 27 2]) (.block (.loop Unit L_nat_mul_1 (λ_=>()) (λc x=>{ tm:=spT 75 0 [(1,.val p1.v),(5,.osl 24 0 (Int.toNat (i64.wrap ((p0.len:Int)+(p1.len:Int)))) (Int.toNat (i64.wrap ((p0.len:Int)+(p1.len:Int))))),(25,.val p0.v),(26,.val (.int .i64 (p0.len:Int))),(27,.val (.int .i64 x.t27))],own:=spO 75 0 [(24,⟨71,.dyn x.o24⟩)] }) I1 J1 (.seq (.reg [A 28 0]) (.seq (.cond .leaf .leaf) (.seq (.block (.seq (.reg [A 29 2,A 30 7,A 31 5,A 6 2,A 7 2]) (.seq (.reg [A 8 2]) (.seq (.seq (.reg [A 32 2,A 33 0,A 34 2]) (.block (.loop C_nat_mul_2 L_nat_mul_2 (λσ=>C_nat_mul_2.mk (gInt (gTm σ 6)) (gInt (gTm σ 7)) (gInt (gTm σ 27))) (λc x=>{ tm:=spT 75 0 [(1,.val p1.v),(5,.osl 24 0 (Int.toNat (i64.wrap ((p0.len:Int)+(p1.len:Int)))) (Int.toNat (i64.wrap ((p0.len:Int)+(p1.len:Int))))),(6,.val (.int .i64 c.t6)),(7,.val (.int .u32 c.t7)),(8,.val (.int .u64 x.t8)),(25,.val p0.v),(26,.val (.int .i64 (p0.len:Int))),(27,.val (.int .i64 c.t27)),(32,.val p1.v),(33,.val (.int .i64 (p1.len:Int))),(34,.val (.int .i64 x.t34))],own:=spO 75 0 [(24,⟨71,.dyn x.o24⟩)] }) I2 J2 (.seq (.reg [A 35 0]) (.seq (.cond .leaf .leaf) (.seq (.block (.seq (.reg [A 36 2,A 37 7,A 38 5,A 9 2,A 10 2]) (.seq (.reg [A 39 2,A 40 2,A 41 0,A 42 2,A 43 0,A 44 0,A 45 2,A 46 2,A 47 2,A 48 0,A 49 7,A 24 4,A 51 0,A 52 0,A 53 0,A 8 2]) (.seq (.reg [A 54 2,A 55 2,A 56 2,A 57 0,A 58 2,A 59 0,A 60 7,A 24 6]) (.reg [A 61 2,A 62 0,A 8 2]))))) (.reg [A 63 0,A 34 2]))))))) (.reg [A 64 2,A 65 2,A 66 2,A 67 0,A 68 0,A 69 2,A 70 0,A 71 7,A 24 6]))))) (.reg [A 72 0,A 27 2]))))))) (.seq (.pub 24 (.reg [A 73 2,A 74 10,A 4 2])) .leaf)))))
 (Eq.mpr (by kernel_rfl) (show nat_mul_sk p0 p1 V R I0 I1 I2 (λc w V=>∃x,nat_mul_f0 p0 p1 c w x/\I0 c x V) (λc w V=>∃x,nat_mul_f1 p0 p1 c w x/\I1 c x V) (λc w V y U=>∃x,nat_mul_f1 p0 p1 c w x/\I1 c x V/\J1 c x V<J1 c y U) (λc w V=>∃x,nat_mul_f2 p0 p1 c w x/\I2 c x V) (λc w V y U=>∃x,nat_mul_f2 p0 p1 c w x/\I2 c x V/\J2 c x V<J2 c y U)from by
 have h:=Eq.mpr e h; unfold nat_mul_sk at h ⊢; have Ee0:=λc w V (h:I0 c w V)=>(⟨w,⟨⟨rfl,rfl,trivial⟩,trivial⟩,h⟩:∃x,nat_mul_f0 p0 p1 c w x/\I0 c x V); have Ee1:=λc w V (h:I1 c w V)=>(⟨w,⟨⟨rfl,rfl,rfl,rfl,rfl,trivial⟩,⟨rfl,trivial⟩⟩,h⟩:∃x,nat_mul_f1 p0 p1 c w x/\I1 c x V); have Bb1:=λc w V y U (h:I1 c w V/\J1 c w V<J1 c y U)=>(⟨w,⟨⟨rfl,rfl,rfl,rfl,rfl,trivial⟩,⟨rfl,trivial⟩⟩,h⟩:∃x,nat_mul_f1 p0 p1 c w x/\I1 c x V/\J1 c x V<J1 c y U); have Ee2:=λc w V (h:I2 c w V)=>(⟨w,⟨⟨rfl,rfl,rfl,rfl,rfl,rfl,rfl,rfl,rfl,rfl,rfl,trivial⟩,⟨rfl,trivial⟩⟩,h⟩:∃x,nat_mul_f2 p0 p1 c w x/\I2 c x V); have Bb2:=λc w V y U (h:I2 c w V/\J2 c w V<J2 c y U)=>(⟨w,⟨⟨rfl,rfl,rfl,rfl,rfl,rfl,rfl,rfl,rfl,rfl,rfl,trivial⟩,⟨rfl,trivial⟩⟩,h⟩:∃x,nat_mul_f2 p0 p1 c w x/\I2 c x V/\J2 c x V<J2 c y U); exact⟨⟨λh3=>⟨λh1=>((h.1.1 h3).1 h1),λh1=>(Ee0 _ _ _ ((h.1.1 h3).2 h1))⟩,λh3=>⟨λh2=>((h.1.2 h3).1 h2),λh2=>(Ee0 _ _ _ ((h.1.2 h3).2 h2))⟩⟩,λx1 V1 h20 h21=>⟨(h.2 x1 V1 h20 h21).1,⟨(Ee1 _ _ _ (h.2 x1 V1 h20 h21).2.1),λx5 V2 h18 h19=>⟨λh17=>⟨(((h.2 x1 V1 h20 h21).2.2 x5 V2 h18 h19).1 h17).1,(match (((h.2 x1 V1 h20 h21).2.2 x5 V2 h18 h19).1 h17).2 with|⟨x6,h12,h11⟩=>⟨x6,h12,⟨(Ee2 _ _ _ h11.1),λx8 V3 h9 h10=>⟨λh8=>⟨((h11.2 x8 V3 h9 h10).1 h8).1,(match ((h11.2 x8 V3 h9 h10).1 h8).2 with|⟨x9,h7,h6⟩=>⟨x9,h7,⟨h6.1,(match h6.2 with|⟨x10,h5,h4⟩=>⟨x10,h5,⟨h4.1,⟨h4.2.1,(Bb2 _ _ _ _ _ h4.2.2)⟩⟩⟩)⟩⟩)⟩,λh8=>⟨((h11.2 x8 V3 h9 h10).2 h8).1,⟨((h11.2 x8 V3 h9 h10).2 h8).2.1,(Bb1 _ _ _ _ _ ((h11.2 x8 V3 h9 h10).2 h8).2.2)⟩⟩⟩⟩⟩)⟩,λh17=>(λb1 V4 h15 h16=>(CallV.mono ((((h.2 x1 V1 h20 h21).2.2 x5 V2 h18 h19).2 h17) b1 V4 h15 h16) (λ_ _ _ ⟨r1,h14,h13⟩=>⟨r1,h14,h13⟩)))⟩⟩⟩⟩))
theorem nat_mul_vc:type_of% (λp0 p1 V R I0 I1 J1 I2 J2=>nat_mul_v0 p0 p1 V R I0 I1 J1 I2 J2 (nat_mul_sk.eq_1 ..)):=λp0 p1 V R I0 I1 J1 I2 J2=>nat_mul_v0 p0 p1 V R I0 I1 J1 I2 J2 (nat_mul_sk.eq_1 ..)
structure L_nat_shl_0 where(u:Unit)
structure L_nat_shl_1 where(t32:Int)(o29:List Value)
def nat_shl_f0(p0:Sl)(p1:Int)(_c:Unit)(_w _x:L_nat_shl_0):Prop:=(Q1 (.val p0.v)/\Q1 (.val (.int .i64 p1))/\True)/\(True)
def nat_shl_f1(p0:Sl)(p1:Int)(_c:Unit)(w x:L_nat_shl_1):Prop:=(Q1 (.val (.int .i64 (i64.wrap (Int.tdiv p1 32))))/\Q1 (.val (.int .u64 (u64.wrap (Int.tmod p1 32))))/\Q1 (.osl 29 0 (Int.toNat (i64.wrap ((i64.wrap ((p0.len:Int)+(i64.wrap (Int.tdiv p1 32))))+1))) (Int.toNat (i64.wrap ((i64.wrap ((p0.len:Int)+(i64.wrap (Int.tdiv p1 32))))+1))))/\Q1 (.val p0.v)/\Q1 (.val (.int .i64 (p0.len:Int)))/\E2 (.val (.int .i64 w.t32)) (.val (.int .i64 x.t32))/\True)/\(O2 ⟨71,.dyn w.o29⟩ ⟨71,.dyn x.o29⟩/\True)
def nat_shl_sk(p0:Sl)(p1:Int)(V:View)(R:Value->View->Prop)(I0:Unit->L_nat_shl_0->View->Prop)(I1:Unit->L_nat_shl_1->View->Prop)(E0:Unit->L_nat_shl_0->View->Prop)(E1:Unit->L_nat_shl_1->View->Prop)(B1:Unit->L_nat_shl_1->View->L_nat_shl_1->View->Prop):Prop :=
 (((((p0.len:Int):Int)==0)=true ->
 (true=true ->
 R (p0.v) V) /\
 (true=false ->
 E0 () (L_nat_shl_0.mk ()) V)) /\
 ((((p0.len:Int):Int)==0)=false ->
 (((p1:Int)==0)=true ->
 R (p0.v) V) /\
 (((p1:Int)==0)=false ->
 E0 () (L_nat_shl_0.mk ()) V))) /\
 (∀(x1:L_nat_shl_0) (V1:View),View.le V V1->I0 () x1 V1 ->
 ((0:Int)<=(i64.wrap ((i64.wrap ((p0.len:Int)+(i64.wrap (Int.tdiv p1 32))))+1))/\((i64.wrap ((i64.wrap ((p0.len:Int)+(i64.wrap (Int.tdiv p1 32))))+1)):Int)<=(i64.wrap ((i64.wrap ((p0.len:Int)+(i64.wrap (Int.tdiv p1 32))))+1))/\(4:Int)*(i64.wrap ((i64.wrap ((p0.len:Int)+(i64.wrap (Int.tdiv p1 32))))+1))<=281474976710656/\((i64.wrap ((i64.wrap ((p0.len:Int)+(i64.wrap (Int.tdiv p1 32))))+1)):Int)<=9223372036854775807) /\
 E1 () (L_nat_shl_1.mk 0 ((List.replicate (Int.toNat (i64.wrap ((i64.wrap ((p0.len:Int)+(i64.wrap (Int.tdiv p1 32))))+1))) [Value.int .u32 0]).flatten)) V1 /\
 (∀(x5:L_nat_shl_1) (V2:View),View.le V1 V2->I1 () x5 V2 ->
 ((decide ((x5.t32:Int)<(p0.len:Int)))=true ->
 ((0:Int)<=x5.t32/\(x5.t32:Int)<(p0.len:Nat)/\Option.isSome p0.a=true) /\
 ∃x6:Int,View.load V2 (Option.map (λq=>Addr.add q (Int.toNat x5.t32*1)) p0.a)=some (.int .u32 x6) /\
 (0:Int)<=(u64.wrap (Int.tmod p1 32)) /\
 ((0:Int)<=(i64.wrap (x5.t32+(i64.wrap (Int.tdiv p1 32))))/\((i64.wrap (x5.t32+(i64.wrap (Int.tdiv p1 32)))):Int)<(Int.toNat (i64.wrap ((i64.wrap ((p0.len:Int)+(i64.wrap (Int.tdiv p1 32))))+1)):Nat)) /\
 ∃x7:Int,x5.o29[0+Int.toNat (i64.wrap (x5.t32+(i64.wrap (Int.tdiv p1 32))))*1]?=some (.int .u32 x7) /\
 ((0:Int)<=(i64.wrap (x5.t32+(i64.wrap (Int.tdiv p1 32))))/\((i64.wrap (x5.t32+(i64.wrap (Int.tdiv p1 32)))):Int)<(Int.toNat (i64.wrap ((i64.wrap ((p0.len:Int)+(i64.wrap (Int.tdiv p1 32))))+1)):Nat)) /\
 0+Int.toNat (i64.wrap (x5.t32+(i64.wrap (Int.tdiv p1 32))))*1+1<=List.length x5.o29 /\
 ((0:Int)<=(i64.wrap ((i64.wrap (x5.t32+(i64.wrap (Int.tdiv p1 32))))+1))/\((i64.wrap ((i64.wrap (x5.t32+(i64.wrap (Int.tdiv p1 32))))+1)):Int)<(Int.toNat (i64.wrap ((i64.wrap ((p0.len:Int)+(i64.wrap (Int.tdiv p1 32))))+1)):Nat)) /\
 0+Int.toNat (i64.wrap ((i64.wrap (x5.t32+(i64.wrap (Int.tdiv p1 32))))+1))*1+1<=List.length (List.set x5.o29 (0+Int.toNat (i64.wrap (x5.t32+(i64.wrap (Int.tdiv p1 32))))*1) (.int .u32 (u32.wrap (BitVec.toNat ((BitVec.ofInt u32.bits x7) ||| (BitVec.ofInt u32.bits (u32.wrap (u64.wrap ((u64.wrap x6)*2^(min (Int.toNat (u64.wrap (Int.tmod p1 32))) (IntKind.bits .u64))))))))))) /\
 B1 () (L_nat_shl_1.mk (i64.wrap (x5.t32+1)) (List.set (List.set x5.o29 (0+Int.toNat (i64.wrap (x5.t32+(i64.wrap (Int.tdiv p1 32))))*1) (.int .u32 (u32.wrap (BitVec.toNat ((BitVec.ofInt u32.bits x7) ||| (BitVec.ofInt u32.bits (u32.wrap (u64.wrap ((u64.wrap x6)*2^(min (Int.toNat (u64.wrap (Int.tmod p1 32))) (IntKind.bits .u64))))))))))) (0+Int.toNat (i64.wrap ((i64.wrap (x5.t32+(i64.wrap (Int.tdiv p1 32))))+1))*1) (.int .u32 (u32.wrap (Int.fdiv (u64.wrap ((u64.wrap x6)*2^(min (Int.toNat (u64.wrap (Int.tmod p1 32))) (IntKind.bits .u64)))) (2^(min (Int.toNat 32) (u64.bits)))))))) V2 x5 V2) /\
 ((decide ((x5.t32:Int)<(p0.len:Int)))=false ->
 ∀(b1:Nat) (V3:View),View.le V2 V3->V3 b1=some (List.toArray x5.o29) ->
 CallV Try.prog 47 #[(Sl.mk (some (Addr.mk b1 0 none)) (Int.toNat (i64.wrap ((i64.wrap ((p0.len:Int)+(i64.wrap (Int.tdiv p1 32))))+1))) (Int.toNat (i64.wrap ((i64.wrap ((p0.len:Int)+(i64.wrap (Int.tdiv p1 32))))+1)))).v] V3 λv V4=>∃r1:Sl,v=r1.v /\
 R (r1.v) V4)))
theorem nat_shl_v0(p0:Sl)(p1:Int)(V:View)(R:Value->View->Prop)(I0:Unit->L_nat_shl_0->View->Prop)(I1:Unit->L_nat_shl_1->View->Prop)(J1:Unit->L_nat_shl_1->View->Nat){X:Prop}(e:nat_shl_sk p0 p1 V R I0 I1 I0 I1 (λc w V x U=>I1 c w V/\J1 c w V<J1 c x U)=X)(h:X) :
 CallV Try.prog 57 #[p0.v,.int .i64 p1] V R :=
 calls_of_vc (Shp:=Shp) hmixed Try.func57 (c:=Try.f57.body.getD .skip) (args:=[p0.v,.int .i64 p1]) (by kernel_rfl)
 (.seq (.reg [A 4 2]) (.cut Unit L_nat_shl_0 (λ_=>()) (λc x=>{ tm:=spT 63 0 [(0,.val p0.v),(1,.val (.int .i64 p1))],own:=spO 63 0 [] }) I0 (.seq (.reg [A 11 2,A 12 0,A 13 0,⟨14,2,true⟩,A 15 2,A 16 0,A 17 2]) (.cond (.seq (.reg [A 18 2,A 4 2]) .leaf) .leaf)) (.seq (.reg [A 19 2,A 20 0,A 21 2,A 22 0,A 23 0,A 5 2,A 6 2]) (.seq (.reg [A 24 2,A 25 0,A 26 2,A 27 0,A 28 0,A 29 3,A 7 2]) (.seq (.seq (.reg [A 30 2,A 31 0,A 32 2]) (.block (.loop Unit L_nat_shl_1 (λ_=>()) (λc x=>{ tm:=spT 63 0 [(5,.val (.int .i64 (i64.wrap (Int.tdiv p1 32)))),(6,.val (.int .u64 (u64.wrap (Int.tmod p1 32)))),(7,.osl 29 0 (Int.toNat (i64.wrap ((i64.wrap ((p0.len:Int)+(i64.wrap (Int.tdiv p1 32))))+1))) (Int.toNat (i64.wrap ((i64.wrap ((p0.len:Int)+(i64.wrap (Int.tdiv p1 32))))+1)))),(30,.val p0.v),(31,.val (.int .i64 (p0.len:Int))),(32,.val (.int .i64 x.t32))],own:=spO 63 0 [(29,⟨71,.dyn x.o29⟩)] }) I1 J1 (.seq (.reg [A 33 0]) (.seq (.cond .leaf .leaf) (.seq (.block (.seq (.reg [A 34 2,A 35 7,A 36 5,A 8 2,A 9 2]) (.seq (.reg [A 37 2,A 38 0,A 39 2,A 40 12,A 10 2]) (.seq (.reg [A 41 2,A 42 2,A 43 2,A 44 0,A 45 7,A 29 4,A 47 2,A 48 0,A 49 0,A 50 7,A 29 6]) (.reg [A 51 2,A 52 2,A 53 2,A 54 0,A 55 0,A 56 2,A 57 0,A 58 0,A 59 7,A 29 6]))))) (.reg [A 60 0,A 32 2]))))))) (.seq (.pub 29 (.reg [A 61 2,A 62 10,A 4 2])) .leaf))))))
 (Eq.mpr (by kernel_rfl) (show nat_shl_sk p0 p1 V R I0 I1 (λc w V=>∃x,nat_shl_f0 p0 p1 c w x/\I0 c x V) (λc w V=>∃x,nat_shl_f1 p0 p1 c w x/\I1 c x V) (λc w V y U=>∃x,nat_shl_f1 p0 p1 c w x/\I1 c x V/\J1 c x V<J1 c y U)from by
 have h:=Eq.mpr e h; unfold nat_shl_sk at h ⊢; have Ee0:=λc w V (h:I0 c w V)=>(⟨w,⟨⟨rfl,rfl,trivial⟩,trivial⟩,h⟩:∃x,nat_shl_f0 p0 p1 c w x/\I0 c x V); have Ee1:=λc w V (h:I1 c w V)=>(⟨w,⟨⟨rfl,rfl,rfl,rfl,rfl,rfl,trivial⟩,⟨rfl,trivial⟩⟩,h⟩:∃x,nat_shl_f1 p0 p1 c w x/\I1 c x V); have Bb1:=λc w V y U (h:I1 c w V/\J1 c w V<J1 c y U)=>(⟨w,⟨⟨rfl,rfl,rfl,rfl,rfl,rfl,trivial⟩,⟨rfl,trivial⟩⟩,h⟩:∃x,nat_shl_f1 p0 p1 c w x/\I1 c x V/\J1 c x V<J1 c y U); exact⟨⟨λh3=>⟨λh1=>((h.1.1 h3).1 h1),λh1=>(Ee0 _ _ _ ((h.1.1 h3).2 h1))⟩,λh3=>⟨λh2=>((h.1.2 h3).1 h2),λh2=>(Ee0 _ _ _ ((h.1.2 h3).2 h2))⟩⟩,λx1 V1 h15 h16=>⟨(h.2 x1 V1 h15 h16).1,⟨(Ee1 _ _ _ (h.2 x1 V1 h15 h16).2.1),λx5 V2 h13 h14=>⟨λh12=>⟨(((h.2 x1 V1 h15 h16).2.2 x5 V2 h13 h14).1 h12).1,(match (((h.2 x1 V1 h15 h16).2.2 x5 V2 h13 h14).1 h12).2 with|⟨x6,h7,h6⟩=>⟨x6,h7,⟨h6.1,⟨h6.2.1,(match h6.2.2 with|⟨x7,h5,h4⟩=>⟨x7,h5,⟨h4.1,⟨h4.2.1,⟨h4.2.2.1,⟨h4.2.2.2.1,(Bb1 _ _ _ _ _ h4.2.2.2.2)⟩⟩⟩⟩⟩)⟩⟩⟩)⟩,λh12=>(λb1 V3 h10 h11=>(CallV.mono ((((h.2 x1 V1 h15 h16).2.2 x5 V2 h13 h14).2 h12) b1 V3 h10 h11) (λ_ _ _ ⟨r1,h9,h8⟩=>⟨r1,h9,h8⟩)))⟩⟩⟩⟩))
theorem nat_shl_vc:type_of% (λp0 p1 V R I0 I1 J1=>nat_shl_v0 p0 p1 V R I0 I1 J1 (nat_shl_sk.eq_1 ..)):=λp0 p1 V R I0 I1 J1=>nat_shl_v0 p0 p1 V R I0 I1 J1 (nat_shl_sk.eq_1 ..)
structure L_nat_shr_0 where(t26:Int)(o23:List Value)
def nat_shr_f0(p0:Sl)(p1:Int)(_c:Unit)(w x:L_nat_shr_0):Prop:=(Q1 (.val p0.v)/\Q1 (.val (.int .i64 (i64.wrap (Int.tdiv p1 32))))/\Q1 (.val (.int .u64 (u64.wrap (Int.tmod p1 32))))/\Q1 (.osl 23 0 (Int.toNat (i64.wrap ((p0.len:Int)-(i64.wrap (Int.tdiv p1 32))))) (Int.toNat (i64.wrap ((p0.len:Int)-(i64.wrap (Int.tdiv p1 32))))))/\Q1 (.val (.int .i64 ((Int.toNat (i64.wrap ((p0.len:Int)-(i64.wrap (Int.tdiv p1 32)))):Nat):Int)))/\E2 (.val (.int .i64 w.t26)) (.val (.int .i64 x.t26))/\True)/\(O2 ⟨71,.dyn w.o23⟩ ⟨71,.dyn x.o23⟩/\True)
def nat_shr_sk(p0:Sl)(p1:Int)(V:View)(R:Value->View->Prop)(I0:Unit->L_nat_shr_0->View->Prop)(E0:Unit->L_nat_shr_0->View->Prop)(B0:Unit->L_nat_shr_0->View->L_nat_shr_0->View->Prop):Prop :=
 ((decide (((i64.wrap (Int.tdiv p1 32)):Int)>=(p0.len:Int)))=true ->
 R ((Sl.mk none 0 0).v) V) /\
 ((decide (((i64.wrap (Int.tdiv p1 32)):Int)>=(p0.len:Int)))=false ->
 ((0:Int)<=(i64.wrap ((p0.len:Int)-(i64.wrap (Int.tdiv p1 32))))/\((i64.wrap ((p0.len:Int)-(i64.wrap (Int.tdiv p1 32)))):Int)<=(i64.wrap ((p0.len:Int)-(i64.wrap (Int.tdiv p1 32))))/\(4:Int)*(i64.wrap ((p0.len:Int)-(i64.wrap (Int.tdiv p1 32))))<=281474976710656/\((i64.wrap ((p0.len:Int)-(i64.wrap (Int.tdiv p1 32)))):Int)<=9223372036854775807) /\
 E0 () (L_nat_shr_0.mk 0 ((List.replicate (Int.toNat (i64.wrap ((p0.len:Int)-(i64.wrap (Int.tdiv p1 32))))) [Value.int .u32 0]).flatten)) V /\
 (∀(x2:L_nat_shr_0) (V1:View),View.le V V1->I0 () x2 V1 ->
 ((decide ((x2.t26:Int)<((Int.toNat (i64.wrap ((p0.len:Int)-(i64.wrap (Int.tdiv p1 32)))):Nat):Int)))=true ->
 ((0:Int)<=(i64.wrap (x2.t26+(i64.wrap (Int.tdiv p1 32))))/\((i64.wrap (x2.t26+(i64.wrap (Int.tdiv p1 32)))):Int)<(p0.len:Nat)/\Option.isSome p0.a=true) /\
 ∃x3:Int,View.load V1 (Option.map (λq=>Addr.add q (Int.toNat (i64.wrap (x2.t26+(i64.wrap (Int.tdiv p1 32))))*1)) p0.a)=some (.int .u32 x3) /\
 ((decide (((i64.wrap ((i64.wrap (x2.t26+(i64.wrap (Int.tdiv p1 32))))+1)):Int)<(p0.len:Int)))=true ->
 ((0:Int)<=(i64.wrap ((i64.wrap (x2.t26+(i64.wrap (Int.tdiv p1 32))))+1))/\((i64.wrap ((i64.wrap (x2.t26+(i64.wrap (Int.tdiv p1 32))))+1)):Int)<(p0.len:Nat)/\Option.isSome p0.a=true) /\
 ∃x4:Int,View.load V1 (Option.map (λq=>Addr.add q (Int.toNat (i64.wrap ((i64.wrap (x2.t26+(i64.wrap (Int.tdiv p1 32))))+1))*1)) p0.a)=some (.int .u32 x4) /\
 (0:Int)<=(u64.wrap (Int.tmod p1 32)) /\
 ((0:Int)<=x2.t26/\(x2.t26:Int)<(Int.toNat (i64.wrap ((p0.len:Int)-(i64.wrap (Int.tdiv p1 32)))):Nat)) /\
 0+Int.toNat x2.t26*1+1<=List.length x2.o23 /\
 B0 () (L_nat_shr_0.mk (i64.wrap (x2.t26+1)) (List.set x2.o23 (0+Int.toNat x2.t26*1) (.int .u32 (u32.wrap (Int.fdiv (u64.wrap (BitVec.toNat ((BitVec.ofInt u64.bits (u64.wrap x3)) ||| (BitVec.ofInt u64.bits (u64.wrap ((u64.wrap x4)*2^(min (Int.toNat 32) (u64.bits)))))))) (2^(min (Int.toNat (u64.wrap (Int.tmod p1 32))) (IntKind.bits .u64)))))))) V1 x2 V1) /\
 ((decide (((i64.wrap ((i64.wrap (x2.t26+(i64.wrap (Int.tdiv p1 32))))+1)):Int)<(p0.len:Int)))=false ->
 (0:Int)<=(u64.wrap (Int.tmod p1 32)) /\
 ((0:Int)<=x2.t26/\(x2.t26:Int)<(Int.toNat (i64.wrap ((p0.len:Int)-(i64.wrap (Int.tdiv p1 32)))):Nat)) /\
 0+Int.toNat x2.t26*1+1<=List.length x2.o23 /\
 B0 () (L_nat_shr_0.mk (i64.wrap (x2.t26+1)) (List.set x2.o23 (0+Int.toNat x2.t26*1) (.int .u32 (u32.wrap (Int.fdiv (u64.wrap x3) (2^(min (Int.toNat (u64.wrap (Int.tmod p1 32))) (IntKind.bits .u64)))))))) V1 x2 V1)) /\
 ((decide ((x2.t26:Int)<((Int.toNat (i64.wrap ((p0.len:Int)-(i64.wrap (Int.tdiv p1 32)))):Nat):Int)))=false ->
 ∀(b1:Nat) (V2:View),View.le V1 V2->V2 b1=some (List.toArray x2.o23) ->
 CallV Try.prog 47 #[(Sl.mk (some (Addr.mk b1 0 none)) (Int.toNat (i64.wrap ((p0.len:Int)-(i64.wrap (Int.tdiv p1 32))))) (Int.toNat (i64.wrap ((p0.len:Int)-(i64.wrap (Int.tdiv p1 32)))))).v] V2 λv V3=>∃r1:Sl,v=r1.v /\
 R (r1.v) V3)))
theorem nat_shr_v0(p0:Sl)(p1:Int)(V:View)(R:Value->View->Prop)(I0:Unit->L_nat_shr_0->View->Prop)(J0:Unit->L_nat_shr_0->View->Nat){X:Prop}(e:nat_shr_sk p0 p1 V R I0 I0 (λc w V x U=>I0 c w V/\J0 c w V<J0 c x U)=X)(h:X) :
 CallV Try.prog 59 #[p0.v,.int .i64 p1] V R :=
 calls_of_vc (Shp:=Shp) hmixed Try.func59 (c:=Try.f59.body.getD .skip) (args:=[p0.v,.int .i64 p1]) (by kernel_rfl)
 (.seq (.reg [A 4 2]) (.seq (.reg [A 10 2,A 11 0,A 12 2,A 13 0,A 14 0,A 5 2,A 6 2]) (.seq (.seq (.reg [A 15 2,A 16 2,A 17 0,A 18 0]) (.cond (.seq (.reg [A 4 2]) .leaf) .leaf)) (.seq (.reg [A 19 2,A 20 0,A 21 2,A 22 0,A 23 3,A 7 2]) (.seq (.seq (.reg [A 24 2,A 25 7,A 26 2]) (.block (.loop Unit L_nat_shr_0 (λ_=>()) (λc x=>{ tm:=spT 64 0 [(0,.val p0.v),(5,.val (.int .i64 (i64.wrap (Int.tdiv p1 32)))),(6,.val (.int .u64 (u64.wrap (Int.tmod p1 32)))),(7,.osl 23 0 (Int.toNat (i64.wrap ((p0.len:Int)-(i64.wrap (Int.tdiv p1 32))))) (Int.toNat (i64.wrap ((p0.len:Int)-(i64.wrap (Int.tdiv p1 32)))))),(25,.val (.int .i64 ((Int.toNat (i64.wrap ((p0.len:Int)-(i64.wrap (Int.tdiv p1 32)))):Nat):Int))),(26,.val (.int .i64 x.t26))],own:=spO 64 0 [(23,⟨71,.dyn x.o23⟩)] }) I0 J0 (.seq (.reg [A 27 0]) (.seq (.cond .leaf .leaf) (.seq (.block (.seq (.reg [A 28 2,A 8 2]) (.seq (.reg [A 29 2,A 30 2,A 31 2,A 32 0,A 33 7,A 34 5,A 35 0,A 9 2]) (.seq (.seq (.reg [A 36 2,A 37 2,A 38 0,A 39 0,A 40 2,A 41 0,A 42 0]) (.cond (.reg [A 43 2,A 44 2,A 45 2,A 46 2,A 47 0,A 48 0,A 49 7,A 50 5,A 51 0,A 52 0,A 53 0,A 9 2]) .leaf)) (.reg [A 54 2,A 55 2,A 56 2,A 57 2,A 58 12,A 59 0,A 60 7,A 23 6]))))) (.reg [A 61 0,A 26 2]))))))) (.seq (.pub 23 (.reg [A 62 2,A 63 10,A 4 2])) .leaf))))))
 (Eq.mpr (by kernel_rfl) (show nat_shr_sk p0 p1 V R I0 (λc w V=>∃x,nat_shr_f0 p0 p1 c w x/\I0 c x V) (λc w V y U=>∃x,nat_shr_f0 p0 p1 c w x/\I0 c x V/\J0 c x V<J0 c y U)from by
 have h:=Eq.mpr e h; unfold nat_shr_sk at h ⊢; have Ee0:=λc w V (h:I0 c w V)=>(⟨w,⟨⟨rfl,rfl,rfl,rfl,rfl,rfl,trivial⟩,⟨rfl,trivial⟩⟩,h⟩:∃x,nat_shr_f0 p0 p1 c w x/\I0 c x V); have Bb0:=λc w V y U (h:I0 c w V/\J0 c w V<J0 c y U)=>(⟨w,⟨⟨rfl,rfl,rfl,rfl,rfl,rfl,trivial⟩,⟨rfl,trivial⟩⟩,h⟩:∃x,nat_shr_f0 p0 p1 c w x/\I0 c x V/\J0 c x V<J0 c y U); exact⟨λh13=>(h.1 h13),λh13=>⟨(h.2 h13).1,⟨(Ee0 _ _ _ (h.2 h13).2.1),λx2 V1 h11 h12=>⟨λh10=>⟨(((h.2 h13).2.2 x2 V1 h11 h12).1 h10).1,(match (((h.2 h13).2.2 x2 V1 h11 h12).1 h10).2 with|⟨x3,h5,h4⟩=>⟨x3,h5,⟨λh3=>⟨(h4.1 h3).1,(match (h4.1 h3).2 with|⟨x4,h2,h1⟩=>⟨x4,h2,⟨h1.1,⟨h1.2.1,⟨h1.2.2.1,(Bb0 _ _ _ _ _ h1.2.2.2)⟩⟩⟩⟩)⟩,λh3=>⟨(h4.2 h3).1,⟨(h4.2 h3).2.1,⟨(h4.2 h3).2.2.1,(Bb0 _ _ _ _ _ (h4.2 h3).2.2.2)⟩⟩⟩⟩⟩)⟩,λh10=>(λb1 V2 h8 h9=>(CallV.mono ((((h.2 h13).2.2 x2 V1 h11 h12).2 h10) b1 V2 h8 h9) (λ_ _ _ ⟨r1,h7,h6⟩=>⟨r1,h7,h6⟩)))⟩⟩⟩⟩))
theorem nat_shr_vc:type_of% (λp0 p1 V R I0 J0=>nat_shr_v0 p0 p1 V R I0 J0 (nat_shr_sk.eq_1 ..)):=λp0 p1 V R I0 J0=>nat_shr_v0 p0 p1 V R I0 J0 (nat_shr_sk.eq_1 ..)
