/- Part of the proof; it has the parts FText. -/
import Derived.Test.YtblaagclfalaaaaFShf
set_option maxRecDepth 100000
set_option maxHeartbeats 4000000
namespace Go.Proofs.Ytblaagclfalaaaa
open Go Go.Vc Go.Proofs
open Go.IntKind (i8 i16 i32 i64 u8 u16 u32 u64)
structure L_nat_digits_0 where(t0:Sl)(t3l t3c:Nat)(o3:List Value)
structure L_nat_digits_1 where(t3l t3c:Nat)(t4 t5:Int)(o3:List Value)
structure C_nat_digits_1 where(t0:Sl)
def nat_digits_f0 (_c:Unit)(w x:L_nat_digits_0):Prop:=(E2 (.val w.t0.v) (.val x.t0.v)/\E2 (.lst 3 w.t3l w.t3c) (.lst 3 x.t3l x.t3c)/\True)/\(O2 ⟨5,.list w.o3⟩ ⟨5,.list x.o3⟩/\True)
def nat_digits_f1 (c:C_nat_digits_1)(w x:L_nat_digits_1):Prop:=(Q1 (.val c.t0.v)/\E2 (.lst 3 w.t3l w.t3c) (.lst 3 x.t3l x.t3c)/\E2 (.val (.int .u32 w.t4)) (.val (.int .u32 x.t4))/\E2 (.val (.int .i64 w.t5)) (.val (.int .i64 x.t5))/\True)/\(O2 ⟨5,.list w.o3⟩ ⟨5,.list x.o3⟩/\True)
def nat_digits_sk(p0:Sl)(V:View)(R:Value->View->Prop)(I0:Unit->L_nat_digits_0->View->Prop)(I1:C_nat_digits_1->L_nat_digits_1->View->Prop)(E0:Unit->L_nat_digits_0->View->Prop)(B0:Unit->L_nat_digits_0->View->L_nat_digits_0->View->Prop)(E1:C_nat_digits_1->L_nat_digits_1->View->Prop)(B1:C_nat_digits_1->L_nat_digits_1->View->L_nat_digits_1->View->Prop):Prop :=
 ((((p0.len:Int):Int)==0)=true ->
 R (.string (ByteArray.mk #[48])) V) /\
 ((((p0.len:Int):Int)==0)=false ->
 E0 () (L_nat_digits_0.mk p0 0 0 ([]:List Value)) V /\
 (∀(x2:L_nat_digits_0) (V1:View),View.le V V1->I0 () x2 V1 ->
 ((decide (((x2.t0.len:Int):Int)>0))=true ->
 CallV Try.prog 55 #[x2.t0.v,.int .u32 1000000000] V1 λv V2=>∃(r1:Sl) (r2:Int),v = .tuple #[r1.v,.int .u32 r2] /\
 E1 (C_nat_digits_1.mk r1) (L_nat_digits_1.mk x2.t3l x2.t3c r2 0 x2.o3) V2 /\
 (∀(x4:L_nat_digits_1) (V3:View),View.le V2 V3->I1 (C_nat_digits_1.mk r1) x4 V3 ->
 ((decide ((x4.t5:Int)<9))=true ->
 ((decide (((r1.len:Int):Int)>0))=true ->
 (true=true ->
 ∀(b1:Nat) (V4:View),View.le V3 V4->View.Fin V4->V4 b1=some #[.int .u8 (u8.wrap (u32.wrap (48+(Int.tmod x4.t4 10))))] ->
 ∃(l1:List Value) (l2:List Value),LstOk 1 x4.t3l x4.t3c x4.o3 l1/\View.has V4 (some (Addr.mk b1 0 none)) l2/\List.length l2=1*1/\(∀v∈l2,Value.oneCell' v=true)/\x4.t3l+1<=maxLen/\(x4.t3l+1)*1<=140737488355328 /\
 ∀(c1:Nat) (l3:List Value),LstOk 1 (x4.t3l+1) c1 l3 (l1++l2) ->
 B1 (C_nat_digits_1.mk r1) (L_nat_digits_1.mk (x4.t3l+1) c1 (u32.wrap (Int.tdiv x4.t4 10)) (i64.wrap (x4.t5+1)) l3) V4 x4 V3) /\
 (true=false ->
 B0 () (L_nat_digits_0.mk r1 x4.t3l x4.t3c x4.o3) V3 x2 V1)) /\
 ((decide (((r1.len:Int):Int)>0))=false ->
 ((decide ((x4.t4:Int)>0))=true ->
 ∀(b2:Nat) (V5:View),View.le V3 V5->View.Fin V5->V5 b2=some #[.int .u8 (u8.wrap (u32.wrap (48+(Int.tmod x4.t4 10))))] ->
 ∃(l4:List Value) (l5:List Value),LstOk 1 x4.t3l x4.t3c x4.o3 l4/\View.has V5 (some (Addr.mk b2 0 none)) l5/\List.length l5=1*1/\(∀v∈l5,Value.oneCell' v=true)/\x4.t3l+1<=maxLen/\(x4.t3l+1)*1<=140737488355328 /\
 ∀(c2:Nat) (l6:List Value),LstOk 1 (x4.t3l+1) c2 l6 (l4++l5) ->
 B1 (C_nat_digits_1.mk r1) (L_nat_digits_1.mk (x4.t3l+1) c2 (u32.wrap (Int.tdiv x4.t4 10)) (i64.wrap (x4.t5+1)) l6) V5 x4 V3) /\
 ((decide ((x4.t4:Int)>0))=false ->
 B0 () (L_nat_digits_0.mk r1 x4.t3l x4.t3c x4.o3) V3 x2 V1))) /\
 ((decide ((x4.t5:Int)<9))=false ->
 (false=true ->
 ∀(b3:Nat) (V6:View),View.le V3 V6->View.Fin V6->V6 b3=some #[.int .u8 (u8.wrap (u32.wrap (48+(Int.tmod x4.t4 10))))] ->
 ∃(l7:List Value) (l8:List Value),LstOk 1 x4.t3l x4.t3c x4.o3 l7/\View.has V6 (some (Addr.mk b3 0 none)) l8/\List.length l8=1*1/\(∀v∈l8,Value.oneCell' v=true)/\x4.t3l+1<=maxLen/\(x4.t3l+1)*1<=140737488355328 /\
 ∀(c3:Nat) (l9:List Value),LstOk 1 (x4.t3l+1) c3 l9 (l7++l8) ->
 B1 (C_nat_digits_1.mk r1) (L_nat_digits_1.mk (x4.t3l+1) c3 (u32.wrap (Int.tdiv x4.t4 10)) (i64.wrap (x4.t5+1)) l9) V6 x4 V3) /\
 (false=false ->
 B0 () (L_nat_digits_0.mk r1 x4.t3l x4.t3c x4.o3) V3 x2 V1)))) /\
 ((decide (((x2.t0.len:Int):Int)>0))=false ->
 (x2.o3≠[]/\(x2.t3c≠0/\True)/\(True)) /\
 CallD Try.prog 64 (λb=>(Value.slice (some ⟨b,0,none⟩) x2.t3l x2.t3c::[]:List Value)) 5 x2.o3 V1 λv l10 V7=>v = .tuple #[] /\
 ∀(b4:Nat) (V8:View),View.le V7 V8->V8 b4=some (List.toArray l10) ->
 ∃l11:List UInt8,View.has V8 (some (Addr.mk b4 0 none)) (List.map byteV l11)/\List.length l11=x2.t3l/\Option.isSome (some (Addr.mk b4 0 none))=true /\
 R (.string (ByteArray.mk (List.toArray l11))) V8)))
theorem nat_digits_v0(p0:Sl)(V:View)(R:Value->View->Prop)(I0:Unit->L_nat_digits_0->View->Prop)(J0:Unit->L_nat_digits_0->View->Nat)(I1:C_nat_digits_1->L_nat_digits_1->View->Prop)(J1:C_nat_digits_1->L_nat_digits_1->View->Nat){X:Prop}(e:nat_digits_sk p0 V R I0 I1 I0 (λc w V x U=>I0 c w V/\J0 c w V<J0 c x U) I1 (λc w V x U=>I1 c w V/\J1 c w V<J1 c x U)=X)(h:X) :
 CallV Try.prog 61 #[p0.v] V R :=
 calls_of_vc (Shp:=Shp) hmixed Try.func61 (c:=Try.f61.body.getD .skip) (args:=[p0.v]) (by kernel_rfl)
 (.seq (.reg [A 2 2]) (.seq (.seq (.reg [A 6 2,A 7 0,A 8 0]) (.cond (.seq (.reg [A 2 2]) .leaf) .leaf)) (.seq (.reg [A 3 2]) (.seq (.adopt 3 3 5 (.block (.loop Unit L_nat_digits_0 (λ_=>()) (λc x=>{ tm:=spT 43 0 [(0,.val x.t0.v),(3,.lst 3 x.t3l x.t3c)],own:=spO 43 0 [(3,⟨5,.list x.o3⟩)] }) I0 J0 (.seq (.seq (.reg [A 9 2,A 10 0,A 11 0]) (.cond .leaf .leaf)) (.block (.seq (.reg [A 4 2]) (.seq (.reg [A 13 2,A 14 10,A 12 2,A 15 0,A 16 0,A 0 2,A 4 2]) (.seq (.reg [A 5 2]) (.block (.loop C_nat_digits_1 L_nat_digits_1 (λσ=>C_nat_digits_1.mk (Sl.mk (gSlA (gTm σ 0)) (gSlL (gTm σ 0)) (gSlC (gTm σ 0)))) (λc x=>{ tm:=spT 43 0 [(0,.val c.t0.v),(3,.lst 3 x.t3l x.t3c),(4,.val (.int .u32 x.t4)),(5,.val (.int .i64 x.t5))],own:=spO 43 0 [(3,⟨5,.list x.o3⟩)] }) I1 J1 (.seq (.seq (.reg [A 17 2,A 18 0,⟨19,2,true⟩,A 20 2,A 21 0,A 22 0,⟨23,2,true⟩,A 24 2,A 25 0,A 26 2,A 27 2]) (.cond .leaf .leaf)) (.seq (.block (.seq (.reg [A 30 2,A 31 2,A 32 0,A 33 0,A 34 0,A 35 11,A 3 13,A 3 2]) (.reg [A 37 2,A 38 0,A 4 2]))) (.reg [A 28 2,A 29 0,A 5 2]))))))))))))) (.seq (.solid 3 (.reg [A 39 2,A 3 14])) (.seq (.pub 3 (.reg [A 41 2,A 42 5,A 2 2])) .leaf))))))
 (Eq.mpr (by kernel_rfl) (show nat_digits_sk p0 V R I0 I1 (λc w V=>∃x,nat_digits_f0  c w x/\I0 c x V) (λc w V y U=>∃x,nat_digits_f0  c w x/\I0 c x V/\J0 c x V<J0 c y U) (λc w V=>∃x,nat_digits_f1  c w x/\I1 c x V) (λc w V y U=>∃x,nat_digits_f1  c w x/\I1 c x V/\J1 c x V<J1 c y U)from by
 have h:=Eq.mpr e h; unfold nat_digits_sk at h ⊢; have Ee0:=λc w V (h:I0 c w V)=>(⟨w,⟨⟨rfl,rfl,trivial⟩,⟨rfl,trivial⟩⟩,h⟩:∃x,nat_digits_f0  c w x/\I0 c x V); have Bb0:=λc w V y U (h:I0 c w V/\J0 c w V<J0 c y U)=>(⟨w,⟨⟨rfl,rfl,trivial⟩,⟨rfl,trivial⟩⟩,h⟩:∃x,nat_digits_f0  c w x/\I0 c x V/\J0 c x V<J0 c y U); have Ee1:=λc w V (h:I1 c w V)=>(⟨w,⟨⟨rfl,rfl,rfl,rfl,trivial⟩,⟨rfl,trivial⟩⟩,h⟩:∃x,nat_digits_f1  c w x/\I1 c x V); have Bb1:=λc w V y U (h:I1 c w V/\J1 c w V<J1 c y U)=>(⟨w,⟨⟨rfl,rfl,rfl,rfl,trivial⟩,⟨rfl,trivial⟩⟩,h⟩:∃x,nat_digits_f1  c w x/\I1 c x V/\J1 c x V<J1 c y U); exact⟨λh54=>(h.1 h54),λh54=>⟨(Ee0 _ _ _ (h.2 h54).1),λx2 V1 h52 h53=>⟨λh51=>(CallV.mono (((h.2 h54).2 x2 V1 h52 h53).1 h51) (λ_ _ _ ⟨r1,r2,h42,h41⟩=>⟨r1,r2,h42,⟨(Ee1 _ _ _ h41.1),λx4 V3 h39 h40=>⟨λh38=>⟨λh25=>⟨λh12=>(λb1 V4 h9 h10 h11=>(match (((((h41.2 x4 V3 h39 h40).1 h38).1 h25).1 h12) b1 V4 h9 h10 h11)with|⟨l1,l2,h3,h4,h5,h6,h7,h8,h2⟩=>⟨l1,l2,h3,h4,h5,h6,h7,h8,(λc1 l3 h1=>(Bb1 _ _ _ _ _ (h2 c1 l3 h1)))⟩)),λh12=>(Bb0 _ _ _ _ _ ((((h41.2 x4 V3 h39 h40).1 h38).1 h25).2 h12))⟩,λh25=>⟨λh24=>(λb2 V5 h21 h22 h23=>(match (((((h41.2 x4 V3 h39 h40).1 h38).2 h25).1 h24) b2 V5 h21 h22 h23)with|⟨l4,l5,h15,h16,h17,h18,h19,h20,h14⟩=>⟨l4,l5,h15,h16,h17,h18,h19,h20,(λc2 l6 h13=>(Bb1 _ _ _ _ _ (h14 c2 l6 h13)))⟩)),λh24=>(Bb0 _ _ _ _ _ ((((h41.2 x4 V3 h39 h40).1 h38).2 h25).2 h24))⟩⟩,λh38=>⟨λh37=>(λb3 V6 h34 h35 h36=>(match ((((h41.2 x4 V3 h39 h40).2 h38).1 h37) b3 V6 h34 h35 h36)with|⟨l7,l8,h28,h29,h30,h31,h32,h33,h27⟩=>⟨l7,l8,h28,h29,h30,h31,h32,h33,(λc3 l9 h26=>(Bb1 _ _ _ _ _ (h27 c3 l9 h26)))⟩)),λh37=>(Bb0 _ _ _ _ _ (((h41.2 x4 V3 h39 h40).2 h38).2 h37))⟩⟩⟩⟩)),λh51=>⟨(((h.2 h54).2 x2 V1 h52 h53).2 h51).1,(CallD.mono (((h.2 h54).2 x2 V1 h52 h53).2 h51).2 (λ_ l10 _ _ ⟨h50,h49⟩=>⟨h50,(λb4 V8 h47 h48=>(match (h49 b4 V8 h47 h48)with|⟨l11,h44,h45,h46,h43⟩=>⟨l11,h44,h45,h46,h43⟩))⟩))⟩⟩⟩⟩))
theorem nat_digits_vc:type_of% (λp0 V R I0 J0 I1 J1=>nat_digits_v0 p0 V R I0 J0 I1 J1 (nat_digits_sk.eq_1 ..)):=λp0 V R I0 J0 I1 J1=>nat_digits_v0 p0 V R I0 J0 I1 J1 (nat_digits_sk.eq_1 ..)
structure L_slices_Reverse___byte_byte__0 where(t2 t3:Int)(o0:List Value)
def slices_Reverse___byte_byte__f0(p0o:Nat)(p0l:Nat)(p0c:Nat)(_c:Unit)(w x:L_slices_Reverse___byte_byte__0):Prop:=(Q1 (.osl 0 p0o p0l p0c)/\E2 (.val (.int .i64 w.t2)) (.val (.int .i64 x.t2))/\E2 (.val (.int .i64 w.t3)) (.val (.int .i64 x.t3))/\True)/\(O2 ⟨5,.dyn w.o0⟩ ⟨5,.dyn x.o0⟩/\True)
def slices_Reverse___byte_byte__sk(p0o p0l p0c:Nat)(p0w:List Value) (V:View)(R:Value->List Value->View->Prop)(I0:Unit->L_slices_Reverse___byte_byte__0->View->Prop)(E0:Unit->L_slices_Reverse___byte_byte__0->View->Prop)(B0:Unit->L_slices_Reverse___byte_byte__0->View->L_slices_Reverse___byte_byte__0->View->Prop):Prop :=
 E0 () (L_slices_Reverse___byte_byte__0.mk 0 (i64.wrap (((p0l:Nat):Int)-1)) p0w) V /\
 (∀(x2:L_slices_Reverse___byte_byte__0) (V1:View),View.le V V1->I0 () x2 V1 ->
 ((decide ((x2.t2:Int)<x2.t3))=true ->
 ((0:Int)<=x2.t3/\(x2.t3:Int)<(p0l:Nat)) /\
 ∃x3:Int,x2.o0[p0o+Int.toNat x2.t3*1]?=some (.int .u8 x3) /\
 ((0:Int)<=x2.t2/\(x2.t2:Int)<(p0l:Nat)) /\
 ∃x4:Int,x2.o0[p0o+Int.toNat x2.t2*1]?=some (.int .u8 x4) /\
 ((0:Int)<=x2.t2/\(x2.t2:Int)<(p0l:Nat)) /\
 p0o+Int.toNat x2.t2*1+1<=List.length x2.o0 /\
 ((0:Int)<=x2.t3/\(x2.t3:Int)<(p0l:Nat)) /\
 p0o+Int.toNat x2.t3*1+1<=List.length (List.set x2.o0 (p0o+Int.toNat x2.t2*1) (.int .u8 x3)) /\
 B0 () (L_slices_Reverse___byte_byte__0.mk (i64.wrap (x2.t2+1)) (i64.wrap (x2.t3-1)) (List.set (List.set x2.o0 (p0o+Int.toNat x2.t2*1) (.int .u8 x3)) (p0o+Int.toNat x2.t3*1) (.int .u8 x4))) V1 x2 V1) /\
 ((decide ((x2.t2:Int)<x2.t3))=false ->
 R (.tuple #[]) x2.o0 V1))
theorem slices_Reverse___byte_byte__v0(p0o p0l p0c:Nat)(p0w:List Value) (V:View)(R:Value->List Value->View->Prop)(I0:Unit->L_slices_Reverse___byte_byte__0->View->Prop)(J0:Unit->L_slices_Reverse___byte_byte__0->View->Nat){X:Prop}(e:slices_Reverse___byte_byte__sk p0o p0l p0c p0w V R I0 I0 (λc w V x U=>I0 c w V/\J0 c w V<J0 c x U)=X)(h:X) :
 CallD Try.prog 64 (λb=>(Value.slice (some ⟨b,p0o,none⟩) p0l p0c::[]:List Value)) 5 p0w V R :=
 calls_of_vcD (Shp:=Shp) (l:=p0w) (off:=p0o) (len:=p0l) (cap:=p0c) hmixed Try.func64 (c:=Try.f64.body.getD .skip) (args:=[]) (by kernel_rfl)
 (.seq (.reg [A 4 2,A 5 7,A 6 0,A 2 2,A 3 2]) (.block (.loop Unit L_slices_Reverse___byte_byte__0 (λ_=>()) (λc x=>{ tm:=spT 28 0 [(0,.osl 0 p0o p0l p0c),(2,.val (.int .i64 x.t2)),(3,.val (.int .i64 x.t3))],own:=spO 28 0 [(0,⟨5,.dyn x.o0⟩)] }) I0 J0 (.seq (.seq (.reg [A 7 2,A 8 2,A 9 0]) (.cond .leaf .leaf)) (.seq (.block (.draw [(0,A 14 2),(1,A 15 2),(2,A 16 2),(3,A 17 2),(4,A 18 2),(5,A 19 2),(6,A 20 7),(7,A 0 4),(8,A 22 2),(9,A 23 2),(10,A 24 7),(11,A 0 4),(12,A 26 7),(13,A 0 6),(14,A 27 7),(15,A 0 6)] [0,0,0,0,0,0,48,112,0,0,768,1792,4083,8179,16383,32767])) (.reg [A 10 2,A 11 0,A 12 2,A 13 0,A 2 2,A 3 2]))))))
 (Eq.mpr (by kernel_rfl) (show slices_Reverse___byte_byte__sk p0o p0l p0c p0w V R I0 (λc w V=>∃x,slices_Reverse___byte_byte__f0 p0o p0l p0c c w x/\I0 c x V) (λc w V y U=>∃x,slices_Reverse___byte_byte__f0 p0o p0l p0c c w x/\I0 c x V/\J0 c x V<J0 c y U)from by
 have h:=Eq.mpr e h; unfold slices_Reverse___byte_byte__sk at h ⊢; have Ee0:=λc w V (h:I0 c w V)=>(⟨w,⟨⟨rfl,rfl,rfl,trivial⟩,⟨rfl,trivial⟩⟩,h⟩:∃x,slices_Reverse___byte_byte__f0 p0o p0l p0c c w x/\I0 c x V); have Bb0:=λc w V y U (h:I0 c w V/\J0 c w V<J0 c y U)=>(⟨w,⟨⟨rfl,rfl,rfl,trivial⟩,⟨rfl,trivial⟩⟩,h⟩:∃x,slices_Reverse___byte_byte__f0 p0o p0l p0c c w x/\I0 c x V/\J0 c x V<J0 c y U); exact⟨(Ee0 _ _ _ h.1),λx2 V1 h6 h7=>⟨λh5=>⟨((h.2 x2 V1 h6 h7).1 h5).1,(match ((h.2 x2 V1 h6 h7).1 h5).2 with|⟨x3,h4,h3⟩=>⟨x3,h4,⟨h3.1,(match h3.2 with|⟨x4,h2,h1⟩=>⟨x4,h2,⟨h1.1,⟨h1.2.1,⟨h1.2.2.1,⟨h1.2.2.2.1,(Bb0 _ _ _ _ _ h1.2.2.2.2)⟩⟩⟩⟩⟩)⟩⟩)⟩,λh5=>((h.2 x2 V1 h6 h7).2 h5)⟩⟩))
theorem slices_Reverse___byte_byte__vc:type_of% (λp0o p0l p0c p0w V R I0 J0=>slices_Reverse___byte_byte__v0 p0o p0l p0c p0w V R I0 J0 (slices_Reverse___byte_byte__sk.eq_1 ..)):=λp0o p0l p0c p0w V R I0 J0=>slices_Reverse___byte_byte__v0 p0o p0l p0c p0w V R I0 J0 (slices_Reverse___byte_byte__sk.eq_1 ..)
theorem num_part_vc(p0:WhV)(p1:Sl)(V:View)(R:Value->View->Prop)
 (h :
 CallV Try.prog 27 #[p0.val,(WhV.mk false (Sl.mk none 0 0)).val,p1.v] V λv V1=>∃r1:NumV,v=r1.val /\
 CallV Try.prog 61 #[r1.re.mag.v] V1 λv V2=>∃r2:ByteArray,v = .string r2 /\
 (r1.re.neg=true ->
 ((ByteArray.size (ByteArray.mk #[45])+ByteArray.size r2:Nat):Int)<=i64.max /\
 ((decide (((r1.under.len:Int):Int)>0))=true ->
 CallV Try.prog 61 #[r1.under.v] V2 λv V3=>∃r3:ByteArray,v = .string r3 /\
 ((ByteArray.size (ByteArray.mk #[47])+ByteArray.size r3:Nat):Int)<=i64.max /\
 ((ByteArray.size ((ByteArray.mk #[45])++r2)+ByteArray.size ((ByteArray.mk #[47])++r3):Nat):Int)<=i64.max /\
 R (.string (((ByteArray.mk #[45])++r2)++((ByteArray.mk #[47])++r3))) V3) /\
 ((decide (((r1.under.len:Int):Int)>0))=false ->
 R (.string ((ByteArray.mk #[45])++r2)) V2)) /\
 (r1.re.neg=false ->
 ((decide (((r1.under.len:Int):Int)>0))=true ->
 CallV Try.prog 61 #[r1.under.v] V2 λv V4=>∃r4:ByteArray,v = .string r4 /\
 ((ByteArray.size (ByteArray.mk #[47])+ByteArray.size r4:Nat):Int)<=i64.max /\
 ((ByteArray.size r2+ByteArray.size ((ByteArray.mk #[47])++r4):Nat):Int)<=i64.max /\
 R (.string (r2++((ByteArray.mk #[47])++r4))) V4) /\
 ((decide (((r1.under.len:Int):Int)>0))=false ->
 R (.string r2) V2))) :
 CallV Try.prog 52 #[p0.val,p1.v] V R :=
 calls_of_vc (Shp:=Shp) hmixed Try.func52 (c:=Try.f52.body.getD .skip) (args:=[p0.val,p1.v]) (by kernel_rfl)
 (.seq (.reg [A 2 3,A 4 2]) (.seq (.reg [A 2 4,A 8 0,A 9 2,A 10 10,A 5 3,A 5 6]) (.seq (.reg [A 11 7,A 12 7,A 5 4,A 14 10,A 6 2]) (.seq (.seq (.reg [A 15 7,A 16 7,A 5 4]) (.cond (.reg [A 18 2,A 19 12,A 6 2]) .leaf)) (.seq (.seq (.reg [A 20 7,A 5 4,A 22 0,A 23 0]) (.cond (.reg [A 24 2,A 25 7,A 5 4,A 27 10,A 28 12,A 29 12,A 6 2]) .leaf)) (.seq (.reg [A 30 2,A 4 2]) .leaf))))))
 (Eq.mpr (by kernel_rfl) h)
theorem Num_Text_vc(p0:NumV)(V:View)(R:Value->View->Prop)
 (h :
 CallV Try.prog 51 #[p0.val] V λv V1=>∃r1:Bool,v = .bool r1 /\
 (r1=true ->
 CallV Try.prog 28 #[p0.val] V1 λv V2=>∃r2:Sl,v=r2.v /\
 CallV Try.prog 52 #[p0.re.val,r2.v] V2 λv V3=>∃r3:ByteArray,v = .string r3 /\
 R (.string r3) V3) /\
 (r1=false ->
 CallV Try.prog 28 #[p0.val] V1 λv V4=>∃r4:Sl,v=r4.v /\
 CallV Try.prog 52 #[p0.im.val,r4.v] V4 λv V5=>∃r5:ByteArray,v = .string r5 /\
 ((ByteArray.size r5+ByteArray.size (ByteArray.mk #[105]):Nat):Int)<=i64.max /\
 ((((p0.re.mag.len:Int):Int)==0)=true ->
 R (.string (r5++(ByteArray.mk #[105]))) V5) /\
 ((((p0.re.mag.len:Int):Int)==0)=false ->
 ((!p0.im.neg)=true ->
 ((ByteArray.size (ByteArray.mk #[43])+ByteArray.size (r5++(ByteArray.mk #[105])):Nat):Int)<=i64.max /\
 CallV Try.prog 28 #[p0.val] V5 λv V6=>∃r6:Sl,v=r6.v /\
 CallV Try.prog 52 #[p0.re.val,r6.v] V6 λv V7=>∃r7:ByteArray,v = .string r7 /\
 ((ByteArray.size r7+ByteArray.size ((ByteArray.mk #[43])++(r5++(ByteArray.mk #[105]))):Nat):Int)<=i64.max /\
 R (.string (r7++((ByteArray.mk #[43])++(r5++(ByteArray.mk #[105]))))) V7) /\
 ((!p0.im.neg)=false ->
 CallV Try.prog 28 #[p0.val] V5 λv V8=>∃r8:Sl,v=r8.v /\
 CallV Try.prog 52 #[p0.re.val,r8.v] V8 λv V9=>∃r9:ByteArray,v = .string r9 /\
 ((ByteArray.size r9+ByteArray.size (r5++(ByteArray.mk #[105])):Nat):Int)<=i64.max /\
 R (.string (r9++(r5++(ByteArray.mk #[105])))) V9)))) :
 CallV Try.prog 34 #[p0.val] V R :=
 calls_of_vc (Shp:=Shp) hmixed Try.func34 (c:=Try.f34.body.getD .skip) (args:=[p0.val]) (by kernel_rfl)
 (.seq (.reg [A 1 3,A 2 2]) (.seq (.seq (.reg [A 1 4,A 5 10]) (.cond (.seq (.draw [(0,A 6 7),(1,A 1 4),(2,A 1 4),(3,A 9 10),(4,A 10 10),(5,A 2 2)] [0,1,0,4,15,31]) .leaf) .leaf)) (.seq (.draw [(0,A 11 7),(1,A 1 4),(2,A 1 4),(3,A 14 10),(4,A 15 10),(5,A 16 12),(6,A 3 2)] [0,1,0,4,15,31,63]) (.seq (.seq (.reg [A 17 7,A 18 7,A 1 4,A 20 0,A 21 0]) (.cond (.seq (.reg [A 22 2,A 2 2]) .leaf) .leaf)) (.seq (.seq (.reg [A 23 7,A 24 7,A 1 4,A 26 0]) (.cond (.reg [A 27 2,A 28 12,A 3 2]) .leaf)) (.seq (.draw [(0,A 29 7),(1,A 1 4),(2,A 1 4),(5,A 34 2),(3,A 32 10),(4,A 33 10),(6,A 35 12),(7,A 2 2)] [0,1,0,4,15,0,63,127]) .leaf))))))
 (Eq.mpr (by kernel_rfl) h)
