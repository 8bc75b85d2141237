/- Part of the proof; it has the parts FStage. -/
import Derived.Test.YtblaagclfalaaaaFTr1
set_option maxRecDepth 100000
set_option maxHeartbeats 4000000
namespace Go.Proofs.Ytblaagclfalaaaa
open Go Go.Vc Go.Proofs
open Go.IntKind (i8 i16 i32 i64 u8 u16 u32 u64)
structure L_transform_stage_num_Num__0 where(t36:Int)(o15:List Value)
structure C_transform_stage_num_Num__0 where(t8 t9:Sl)
def transform_stage_num_Num__f0(p0:Sl)(p1:Sl)(c:C_transform_stage_num_Num__0)(w x:L_transform_stage_num_Num__0):Prop:=(Q1 (.val p1.v)/\Q1 (.val (.int .i64 (p0.len:Int)))/\Q1 (.osl 15 0 (Int.toNat (p0.len:Int)) (Int.toNat (p0.len:Int)))/\Q1 (.val c.t8.v)/\Q1 (.val c.t9.v)/\Q1 (.val (.int .i64 (i64.wrap (Int.tdiv (p0.len:Int) 2))))/\E2 (.val (.int .i64 w.t36)) (.val (.int .i64 x.t36))/\True)/\(O2 ⟨34,.dyn w.o15⟩ ⟨34,.dyn x.o15⟩/\True)
def transform_stage_num_Num__sk(p0:Sl)(p1:Sl)(V:View)(R:Nat->Nat->List Value->List Value->View->Prop)(I0:C_transform_stage_num_Num__0->L_transform_stage_num_Num__0->View->Prop)(E0:C_transform_stage_num_Num__0->L_transform_stage_num_Num__0->View->Prop)(B0:C_transform_stage_num_Num__0->L_transform_stage_num_Num__0->View->L_transform_stage_num_Num__0->View->Prop):Prop :=
 ((0:Int)<=(p0.len:Int)/\((p0.len:Int):Int)<=(p0.len:Int)/\(88:Int)*(p0.len:Int)<=281474976710656/\((p0.len:Int):Int)<=9223372036854775807) /\
 ((((p0.len:Int):Int)==1)=true ->
 ((0:Int)<=0/\(0:Int)<(p0.len:Nat)/\Option.isSome p0.a=true) /\
 ∃x1:NumV,View.has V (Option.map (λq=>Addr.add q (Int.toNat 0*5)) p0.a) (x1.val).cells.toList/\Option.isSome (Option.map (λq=>Addr.add q (Int.toNat 0*5)) p0.a)=true /\
 ((0:Int)<=0/\(0:Int)<(Int.toNat (p0.len:Int):Nat)) /\
 0+Int.toNat 0*5+5<=List.length ((List.replicate (Int.toNat (p0.len:Int)) [Value.bool false,Value.slice none 0 0,Value.bool false,Value.slice none 0 0,Value.slice none 0 0]).flatten) /\
 ((Int.toNat (p0.len:Int))≠0/\(setL ((List.replicate (Int.toNat (p0.len:Int)) [Value.bool false,Value.slice none 0 0,Value.bool false,Value.slice none 0 0,Value.slice none 0 0]).flatten) (0+Int.toNat 0*5) [.bool x1.re.neg,x1.re.mag.v,.bool x1.im.neg,x1.im.mag.v,x1.under.v])≠[])/\R (Int.toNat (p0.len:Int)) (Int.toNat (p0.len:Int)) (setL ((List.replicate (Int.toNat (p0.len:Int)) [Value.bool false,Value.slice none 0 0,Value.bool false,Value.slice none 0 0,Value.slice none 0 0]).flatten) (0+Int.toNat 0*5) [.bool x1.re.neg,x1.re.mag.v,.bool x1.im.neg,x1.im.mag.v,x1.under.v]) [] V) /\
 ((((p0.len:Int):Int)==1)=false ->
 CallV Try.prog 60 #[p1.v,.int .i64 0] V λv V1=>∃r1:Sl,v=r1.v /\
 CallV Try.prog 60 #[p0.v,.int .i64 0] V1 λv V2=>∃r2:Sl,v=r2.v /\
 CallV Try.prog 49 #[r2.v,r1.v] V2 λv V3=>∃r3:Sl,v=r3.v /\
 CallV Try.prog 60 #[p0.v,.int .i64 1] V3 λv V4=>∃r4:Sl,v=r4.v /\
 CallV Try.prog 49 #[r4.v,r1.v] V4 λv V5=>∃r5:Sl,v=r5.v /\
 E0 (C_transform_stage_num_Num__0.mk r3 r5) (L_transform_stage_num_Num__0.mk 0 ((List.replicate (Int.toNat (p0.len:Int)) [Value.bool false,Value.slice none 0 0,Value.bool false,Value.slice none 0 0,Value.slice none 0 0]).flatten)) V5 /\
 (∀(x3:L_transform_stage_num_Num__0) (V6:View),View.le V5 V6->I0 (C_transform_stage_num_Num__0.mk r3 r5) x3 V6 ->
 ((decide ((x3.t36:Int)<(i64.wrap (Int.tdiv (p0.len:Int) 2))))=true ->
 ((0:Int)<=x3.t36/\(x3.t36:Int)<(r5.len:Nat)/\Option.isSome r5.a=true) /\
 ∃x4:NumV,View.has V6 (Option.map (λq=>Addr.add q (Int.toNat x3.t36*5)) r5.a) (x4.val).cells.toList/\Option.isSome (Option.map (λq=>Addr.add q (Int.toNat x3.t36*5)) r5.a)=true /\
 ((0:Int)<=x3.t36/\(x3.t36:Int)<(p1.len:Nat)/\Option.isSome p1.a=true) /\
 ∃x5:NumV,View.has V6 (Option.map (λq=>Addr.add q (Int.toNat x3.t36*5)) p1.a) (x5.val).cells.toList/\Option.isSome (Option.map (λq=>Addr.add q (Int.toNat x3.t36*5)) p1.a)=true /\
 CallV Try.prog 10 #[x4.val,x5.val] V6 λv V7=>∃r6:NumV,v=r6.val /\
 ((0:Int)<=x3.t36/\(x3.t36:Int)<(r3.len:Nat)/\Option.isSome r3.a=true) /\
 ∃x6:NumV,View.has V7 (Option.map (λq=>Addr.add q (Int.toNat x3.t36*5)) r3.a) (x6.val).cells.toList/\Option.isSome (Option.map (λq=>Addr.add q (Int.toNat x3.t36*5)) r3.a)=true /\
 ((0:Int)<=x3.t36/\(x3.t36:Int)<(r3.len:Nat)/\Option.isSome r3.a=true) /\
 ∃x7:NumV,View.has V7 (Option.map (λq=>Addr.add q (Int.toNat x3.t36*5)) r3.a) (x7.val).cells.toList/\Option.isSome (Option.map (λq=>Addr.add q (Int.toNat x3.t36*5)) r3.a)=true /\
 CallV Try.prog 20 #[x6.val,r6.val] V7 λv V8=>∃r7:NumV,v=r7.val /\
 CallV Try.prog 84 #[x7.val,r6.val] V8 λv V9=>∃r8:NumV,v=r8.val /\
 ((0:Int)<=x3.t36/\(x3.t36:Int)<(Int.toNat (p0.len:Int):Nat)) /\
 0+Int.toNat x3.t36*5+5<=List.length x3.o15 /\
 ((0:Int)<=(i64.wrap (x3.t36+(i64.wrap (Int.tdiv (p0.len:Int) 2))))/\((i64.wrap (x3.t36+(i64.wrap (Int.tdiv (p0.len:Int) 2)))):Int)<(Int.toNat (p0.len:Int):Nat)) /\
 0+Int.toNat (i64.wrap (x3.t36+(i64.wrap (Int.tdiv (p0.len:Int) 2))))*5+5<=List.length (setL x3.o15 (0+Int.toNat x3.t36*5) [.bool r7.re.neg,r7.re.mag.v,.bool r7.im.neg,r7.im.mag.v,r7.under.v]) /\
 B0 (C_transform_stage_num_Num__0.mk r3 r5) (L_transform_stage_num_Num__0.mk (i64.wrap (x3.t36+1)) (setL (setL x3.o15 (0+Int.toNat x3.t36*5) [.bool r7.re.neg,r7.re.mag.v,.bool r7.im.neg,r7.im.mag.v,r7.under.v]) (0+Int.toNat (i64.wrap (x3.t36+(i64.wrap (Int.tdiv (p0.len:Int) 2))))*5) [.bool r8.re.neg,r8.re.mag.v,.bool r8.im.neg,r8.im.mag.v,r8.under.v])) V9 x3 V6) /\
 ((decide ((x3.t36:Int)<(i64.wrap (Int.tdiv (p0.len:Int) 2))))=false ->
 ((Int.toNat (p0.len:Int))≠0/\x3.o15≠[])/\R (Int.toNat (p0.len:Int)) (Int.toNat (p0.len:Int)) x3.o15 [] V6)))
theorem transform_stage_num_Num__v0(p0:Sl)(p1:Sl)(V:View)(R:Nat->Nat->List Value->List Value->View->Prop)(I0:C_transform_stage_num_Num__0->L_transform_stage_num_Num__0->View->Prop)(J0:C_transform_stage_num_Num__0->L_transform_stage_num_Num__0->View->Nat){X:Prop}(e:transform_stage_num_Num__sk p0 p1 V R I0 I0 (λc w V x U=>I0 c w V/\J0 c w V<J0 c x U)=X)(h:X) :
 CallO Try.prog 49 #[p0.v,p1.v] 34 V R :=
 calls_of_vcO (Shp:=Shp) hmixed Try.func49 (c:=Try.f49.body.getD .skip) (args:=[p0.v,p1.v]) (by kernel_rfl)
 (.seq (.reg [A 4 2]) (.seq (.reg [A 12 2,A 13 0,A 5 2]) (.seq (.reg [A 14 2,A 15 3,A 6 2]) (.seq (.seq (.reg [A 16 2,A 17 0]) (.cond (.seq (.reg [A 18 2,A 19 2,A 20 7,A 21 5,A 22 7,A 15 6]) (.seq (.reg [A 23 2,A 4 2]) .leaf)) .leaf)) (.seq (.reg [A 24 2,A 25 10,A 7 2]) (.seq (.reg [A 26 2,A 27 10,A 28 2,A 29 10,A 30 2,A 31 10,A 32 2,A 33 10,A 8 2,A 9 2]) (.seq (.seq (.reg [A 34 2,A 35 0,A 36 2]) (.block (.loop C_transform_stage_num_Num__0 L_transform_stage_num_Num__0 (λσ=>C_transform_stage_num_Num__0.mk (Sl.mk (gSlA (gTm σ 8)) (gSlL (gTm σ 8)) (gSlC (gTm σ 8))) (Sl.mk (gSlA (gTm σ 9)) (gSlL (gTm σ 9)) (gSlC (gTm σ 9)))) (λc x=>{ tm:=spT 74 0 [(1,.val p1.v),(5,.val (.int .i64 (p0.len:Int))),(6,.osl 15 0 (Int.toNat (p0.len:Int)) (Int.toNat (p0.len:Int))),(8,.val c.t8.v),(9,.val c.t9.v),(35,.val (.int .i64 (i64.wrap (Int.tdiv (p0.len:Int) 2)))),(36,.val (.int .i64 x.t36))],own:=spO 74 0 [(15,⟨34,.dyn x.o15⟩)] }) I0 J0 (.seq (.reg [A 37 0]) (.seq (.cond .leaf .leaf) (.seq (.block (.seq (.reg [A 38 2,A 10 2]) (.seq (.draw [(0,A 39 2),(1,A 40 2),(2,A 41 7),(3,A 42 5),(4,A 43 0),(5,A 44 2),(6,A 45 2),(7,A 46 7),(8,A 47 5),(10,A 11 3),(9,A 48 10),(11,A 11 6)] [0,0,3,7,15,0,0,96,224,511,0,2047]) (.draw [(0,A 49 2),(1,A 50 2),(2,A 51 2),(3,A 52 2),(4,A 53 2),(5,A 54 0),(6,A 55 0),(7,A 56 2),(8,A 57 2),(9,A 58 7),(10,A 59 5),(11,A 60 0),(12,A 11 4),(14,A 63 2),(15,A 64 2),(16,A 65 7),(17,A 66 5),(18,A 67 0),(19,A 11 4),(13,A 62 10),(20,A 69 10),(21,A 70 7),(22,A 15 6),(23,A 71 7),(24,A 15 6)] [0,0,0,0,0,16,56,0,0,384,896,1920,0,8064,0,0,49152,114688,245760,0,1048448,2097027,4194179,8388607,16777215])))) (.reg [A 72 0,A 36 2]))))))) (.seq (.reg [A 73 2,A 4 2]) .leaf))))))))
 (Eq.mpr (by kernel_rfl) (show transform_stage_num_Num__sk p0 p1 V R I0 (λc w V=>∃x,transform_stage_num_Num__f0 p0 p1 c w x/\I0 c x V) (λc w V y U=>∃x,transform_stage_num_Num__f0 p0 p1 c w x/\I0 c x V/\J0 c x V<J0 c y U)from by
 have h:=Eq.mpr e h; unfold transform_stage_num_Num__sk at h ⊢; have Ee0:=λc w V (h:I0 c w V)=>(⟨w,⟨⟨rfl,rfl,rfl,rfl,rfl,rfl,rfl,trivial⟩,⟨rfl,trivial⟩⟩,h⟩:∃x,transform_stage_num_Num__f0 p0 p1 c w x/\I0 c x V); have Bb0:=λc w V y U (h:I0 c w V/\J0 c w V<J0 c y U)=>(⟨w,⟨⟨rfl,rfl,rfl,rfl,rfl,rfl,rfl,trivial⟩,⟨rfl,trivial⟩⟩,h⟩:∃x,transform_stage_num_Num__f0 p0 p1 c w x/\I0 c x V/\J0 c x V<J0 c y U); exact⟨h.1,⟨λh35=>⟨(h.2.1 h35).1,(match (h.2.1 h35).2 with|⟨x1,h2,h3,h1⟩=>⟨x1,h2,h3,⟨h1.1,⟨h1.2.1,h1.2.2⟩⟩⟩)⟩,λh35=>(CallV.mono (h.2.2 h35) (λ_ _ _ ⟨r1,h34,h33⟩=>⟨r1,h34,(CallV.mono h33 (λ_ _ _ ⟨r2,h32,h31⟩=>⟨r2,h32,(CallV.mono h31 (λ_ _ _ ⟨r3,h30,h29⟩=>⟨r3,h30,(CallV.mono h29 (λ_ _ _ ⟨r4,h28,h27⟩=>⟨r4,h28,(CallV.mono h27 (λ_ _ _ ⟨r5,h26,h25⟩=>⟨r5,h26,⟨(Ee0 _ _ _ h25.1),λx3 V6 h23 h24=>⟨λh22=>⟨((h25.2 x3 V6 h23 h24).1 h22).1,(match ((h25.2 x3 V6 h23 h24).1 h22).2 with|⟨x4,h20,h21,h19⟩=>⟨x4,h20,h21,⟨h19.1,(match h19.2 with|⟨x5,h17,h18,h16⟩=>⟨x5,h17,h18,(CallV.mono h16 (λ_ _ _ ⟨r6,h15,h14⟩=>⟨r6,h15,⟨h14.1,(match h14.2 with|⟨x6,h12,h13,h11⟩=>⟨x6,h12,h13,⟨h11.1,(match h11.2 with|⟨x7,h9,h10,h8⟩=>⟨x7,h9,h10,(CallV.mono h8 (λ_ _ _ ⟨r7,h7,h6⟩=>⟨r7,h7,(CallV.mono h6 (λ_ _ _ ⟨r8,h5,h4⟩=>⟨r8,h5,⟨h4.1,⟨h4.2.1,⟨h4.2.2.1,⟨h4.2.2.2.1,(Bb0 _ _ _ _ _ h4.2.2.2.2)⟩⟩⟩⟩⟩))⟩))⟩)⟩⟩)⟩⟩))⟩)⟩⟩)⟩,λh22=>((h25.2 x3 V6 h23 h24).2 h22)⟩⟩⟩))⟩))⟩))⟩))⟩))⟩⟩))
theorem transform_stage_num_Num__vc:type_of% (λp0 p1 V R I0 J0=>transform_stage_num_Num__v0 p0 p1 V R I0 J0 (transform_stage_num_Num__sk.eq_1 ..)):=λp0 p1 V R I0 J0=>transform_stage_num_Num__v0 p0 p1 V R I0 J0 (transform_stage_num_Num__sk.eq_1 ..)
