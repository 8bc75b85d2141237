/- Part of the proof; it has the parts FNum1. -/
import Derived.Test.YtblaagclfalaaaaFGcd
set_option maxRecDepth 100000
set_option maxHeartbeats 4000000
namespace Go.Proofs.Ytblaagclfalaaaa
open Go Go.Vc Go.Proofs
open Go.IntKind (i8 i16 i32 i64 u8 u16 u32 u64)
theorem num_wholeOf_vc(p0:Bool)(p1:Sl)(V:View)(R:Value->View->Prop)
 (h :
 (p0=true ->
 R ((WhV.mk (decide (((p1.len:Int):Int)>0)) p1).val) V) /\
 (p0=false ->
 R ((WhV.mk false p1).val) V)) :
 CallV Try.prog 41 #[.bool p0,p1.v] V R :=
 calls_of_vc (Shp:=Shp) hmixed Try.func41 (c:=Try.f41.body.getD .skip) (args:=[.bool p0,p1.v]) (by kernel_rfl)
 (.seq (.reg [A 4 3]) (.seq (.reg [A 5 2,⟨6,2,true⟩,A 7 2,A 8 0,A 9 0,A 10 2,A 11 2,A 12 0,A 4 6]) .leaf))
 (Eq.mpr (by kernel_rfl) h)
theorem num_of64_vc(p0:Int)(V:View)(R:Value->View->Prop)
 (h :
 ((decide ((p0:Int)<0))=true ->
 CallV Try.prog 48 #[.int .u64 (u64.wrap (0-(u64.wrap p0)))] V λv V1=>∃r1:Sl,v=r1.v /\
 R ((WhV.mk true r1).val) V1) /\
 ((decide ((p0:Int)<0))=false ->
 CallV Try.prog 48 #[.int .u64 (u64.wrap p0)] V λv V2=>∃r2:Sl,v=r2.v /\
 R ((WhV.mk false r2).val) V2)) :
 CallV Try.prog 30 #[.int .i64 p0] V R :=
 calls_of_vc (Shp:=Shp) hmixed Try.func30 (c:=Try.f30.body.getD .skip) (args:=[.int .i64 p0]) (by kernel_rfl)
 (.seq (.reg [A 2 3]) (.seq (.seq (.reg [A 3 2,A 4 0]) (.cond (.seq (.reg [A 5 2,A 6 0,A 7 0,A 8 10,A 9 0,A 2 6]) .leaf) .leaf)) (.seq (.reg [A 10 2,A 11 0,A 12 10,A 13 0,A 2 6]) .leaf)))
 (Eq.mpr (by kernel_rfl) h)
theorem whole_minus_vc(p0:WhV)(V:View)(R:Value->View->Prop)
 (h :
 CallV Try.prog 41 #[.bool (!p0.neg),p0.mag.v] V λv V1=>∃r1:WhV,v=r1.val /\
 R (r1.val) V1) :
 CallV Try.prog 26 #[p0.val] V R :=
 calls_of_vc (Shp:=Shp) hmixed Try.func26 (c:=Try.f26.body.getD .skip) (args:=[p0.val]) (by kernel_rfl)
 (.seq (.reg [A 1 3,A 2 3]) (.seq (.reg [A 3 7,A 1 4,A 5 0,A 6 7,A 1 4,A 8 10,A 2 6]) .leaf))
 (Eq.mpr (by kernel_rfl) h)
theorem whole_plus_vc(p0:WhV)(p1:WhV)(V:View)(R:Value->View->Prop)
 (h :
 ((p0.neg==p1.neg)=true ->
 CallV Try.prog 42 #[p0.mag.v,p1.mag.v] V λv V1=>∃r1:Sl,v=r1.v /\
 CallV Try.prog 41 #[.bool p0.neg,r1.v] V1 λv V2=>∃r2:WhV,v=r2.val /\
 R (r2.val) V2) /\
 ((p0.neg==p1.neg)=false ->
 CallV Try.prog 23 #[p0.mag.v,p1.mag.v] V λv V3=>∃r3:Int,v = .int .i64 r3 /\
 ((decide ((r3:Int)>=0))=true ->
 CallV Try.prog 43 #[p0.mag.v,p1.mag.v] V3 λv V4=>∃r4:Sl,v=r4.v /\
 CallV Try.prog 41 #[.bool p0.neg,r4.v] V4 λv V5=>∃r5:WhV,v=r5.val /\
 R (r5.val) V5) /\
 ((decide ((r3:Int)>=0))=false ->
 CallV Try.prog 43 #[p1.mag.v,p0.mag.v] V3 λv V6=>∃r6:Sl,v=r6.v /\
 CallV Try.prog 41 #[.bool p1.neg,r6.v] V6 λv V7=>∃r7:WhV,v=r7.val /\
 R (r7.val) V7))) :
 CallV Try.prog 25 #[p0.val,p1.val] V R :=
 calls_of_vc (Shp:=Shp) hmixed Try.func25 (c:=Try.f25.body.getD .skip) (args:=[p0.val,p1.val]) (by kernel_rfl)
 (.seq (.reg [A 2 3,A 3 3,A 4 3]) (.seq (.seq (.reg [A 5 7,A 2 4,A 7 7,A 3 4,A 9 0]) (.cond (.seq (.draw [(0,A 10 7),(1,A 2 4),(2,A 12 7),(3,A 2 4),(4,A 14 7),(5,A 3 4),(6,A 16 10),(7,A 17 10),(8,A 4 6)] [0,1,0,4,0,16,60,127,255]) .leaf) .leaf)) (.seq (.seq (.reg [A 18 7,A 2 4,A 20 7,A 3 4,A 22 10,A 23 0]) (.cond (.seq (.draw [(0,A 24 7),(1,A 2 4),(2,A 26 7),(3,A 2 4),(4,A 28 7),(5,A 3 4),(6,A 30 10),(7,A 31 10),(8,A 4 6)] [0,1,0,4,0,16,60,127,255]) .leaf) .leaf)) (.seq (.draw [(0,A 32 7),(1,A 3 4),(2,A 34 7),(3,A 3 4),(4,A 36 7),(5,A 2 4),(6,A 38 10),(7,A 39 10),(8,A 4 6)] [0,1,0,4,0,16,60,127,255]) .leaf))))
 (Eq.mpr (by kernel_rfl) h)
theorem whole_times_vc(p0:WhV)(p1:WhV)(V:View)(R:Value->View->Prop)
 (h :
 CallV Try.prog 29 #[p0.mag.v,p1.mag.v] V λv V1=>∃r1:Sl,v=r1.v /\
 CallV Try.prog 41 #[.bool (!(p0.neg==p1.neg)),r1.v] V1 λv V2=>∃r2:WhV,v=r2.val /\
 R (r2.val) V2) :
 CallV Try.prog 24 #[p0.val,p1.val] V R :=
 calls_of_vc (Shp:=Shp) hmixed Try.func24 (c:=Try.f24.body.getD .skip) (args:=[p0.val,p1.val]) (by kernel_rfl)
 (.seq (.reg [A 2 3,A 3 3,A 4 3]) (.seq (.draw [(0,A 5 7),(1,A 2 4),(2,A 7 7),(3,A 3 4),(4,A 9 0),(5,A 10 7),(6,A 2 4),(7,A 12 7),(8,A 3 4),(9,A 14 10),(10,A 15 10),(11,A 4 6)] [0,1,0,4,15,0,32,0,128,480,1023,2047]) .leaf))
 (Eq.mpr (by kernel_rfl) h)
theorem whole_scaled_vc(p0:WhV)(p1:Sl)(V:View)(R:Value->View->Prop)
 (h :
 CallV Try.prog 29 #[p0.mag.v,p1.v] V λv V1=>∃r1:Sl,v=r1.v /\
 CallV Try.prog 41 #[.bool p0.neg,r1.v] V1 λv V2=>∃r2:WhV,v=r2.val /\
 R (r2.val) V2) :
 CallV Try.prog 40 #[p0.val,p1.v] V R :=
 calls_of_vc (Shp:=Shp) hmixed Try.func40 (c:=Try.f40.body.getD .skip) (args:=[p0.val,p1.v]) (by kernel_rfl)
 (.seq (.reg [A 2 3,A 4 3]) (.seq (.draw [(0,A 5 7),(1,A 2 4),(2,A 7 7),(3,A 2 4),(4,A 9 2),(5,A 10 10),(6,A 11 10),(7,A 4 6)] [0,1,0,4,0,28,63,127]) .leaf))
 (Eq.mpr (by kernel_rfl) h)
theorem whole_cmp_vc(p0:WhV)(p1:WhV)(V:View)(R:Value->View->Prop)
 (h :
 CallV Try.prog 26 #[p1.val] V λv V1=>∃r1:WhV,v=r1.val /\
 CallV Try.prog 25 #[p0.val,r1.val] V1 λv V2=>∃r2:WhV,v=r2.val /\
 (r2.neg=true ->
 R (.int .i64 (-1)) V2) /\
 (r2.neg=false ->
 R (.int .i64 (if(1:Int)<(r2.mag.len:Int)then 1 else(r2.mag.len:Int))) V2)) :
 CallV Try.prog 22 #[p0.val,p1.val] V R :=
 calls_of_vc (Shp:=Shp) hmixed Try.func22 (c:=Try.f22.body.getD .skip) (args:=[p0.val,p1.val]) (by kernel_rfl)
 (.seq (.reg [A 2 3,A 3 3,A 4 2]) (.seq (.draw [(0,A 2 4),(1,A 3 4),(4,A 5 3),(2,A 8 10),(3,A 9 10),(5,A 5 6)] [0,0,2,7,0,31]) (.seq (.seq (.reg [A 10 7,A 5 4]) (.cond (.seq (.reg [A 4 2]) .leaf) .leaf)) (.seq (.reg [A 12 7,A 5 4,A 14 0,A 15 0,A 4 2]) .leaf))))
 (Eq.mpr (by kernel_rfl) h)
theorem num_over_vc(p0:WhV)(p1:WhV)(p2:Sl)(V:View)(R:Value->View->Prop)
 (h :
 CallV Try.prog 44 #[p0.mag.v,p1.mag.v] V λv V1=>∃r1:Sl,v=r1.v /\
 CallV Try.prog 44 #[r1.v,p2.v] V1 λv V2=>∃r2:Sl,v=r2.v /\
 CallV Try.prog 45 #[r2.v] V2 λv V3=>∃r3:Bool,v = .bool r3 /\
 ((!r3)=true ->
 CallV Try.prog 46 #[p0.mag.v,r2.v] V3 λv V4=>∃(r4:Sl) (r5:Sl),v = .tuple #[r4.v,r5.v] /\
 CallV Try.prog 46 #[p1.mag.v,r2.v] V4 λv V5=>∃(r6:Sl) (r7:Sl),v = .tuple #[r6.v,r7.v] /\
 CallV Try.prog 46 #[p2.v,r2.v] V5 λv V6=>∃(r8:Sl) (r9:Sl),v = .tuple #[r8.v,r9.v] /\
 CallV Try.prog 45 #[r8.v] V6 λv V7=>∃r10:Bool,v = .bool r10 /\
 (r10=true ->
 R ((NumV.mk (WhV.mk p0.neg r4) (WhV.mk p1.neg r6) (Sl.mk none 0 0)).val) V7) /\
 (r10=false ->
 R ((NumV.mk (WhV.mk p0.neg r4) (WhV.mk p1.neg r6) r8).val) V7)) /\
 ((!r3)=false ->
 CallV Try.prog 45 #[p2.v] V3 λv V8=>∃r11:Bool,v = .bool r11 /\
 (r11=true ->
 R ((NumV.mk p0 p1 (Sl.mk none 0 0)).val) V8) /\
 (r11=false ->
 R ((NumV.mk p0 p1 p2).val) V8))) :
 CallV Try.prog 27 #[p0.val,p1.val,p2.v] V R :=
 calls_of_vc (Shp:=Shp) hmixed Try.func27 (c:=Try.f27.body.getD .skip) (args:=[p0.val,p1.val,p2.v]) (by kernel_rfl)
 (.seq (.reg [A 3 3,A 4 3,A 6 3]) (.seq (.reg [A 8 7,A 3 4,A 10 7,A 4 4,A 12 10,A 13 2,A 14 10,A 7 2]) (.seq (.seq (.reg [A 15 2,A 16 10,A 17 0]) (.cond (.seq (.reg [A 19 7,A 3 4,A 21 2,A 22 10,A 18 2,A 23 0,A 24 0,A 25 7,A 3 6]) (.seq (.reg [A 27 7,A 4 4,A 29 2,A 30 10,A 26 2,A 31 0,A 32 0,A 33 7,A 4 6]) (.reg [A 35 2,A 36 2,A 37 10,A 34 2,A 38 0,A 39 0,A 2 2]))) .leaf)) (.seq (.seq (.reg [A 40 2,A 41 10]) (.cond (.reg [A 2 2]) .leaf)) (.seq (.reg [A 3 4,A 4 4,A 44 2,A 45 0,A 6 6]) .leaf)))))
 (Eq.mpr (by kernel_rfl) h)
theorem Num_den_vc(p0:NumV)(V:View)(R:Value->View->Prop)
 (h :
 ((((p0.under.len:Int):Int)==0)=true ->
 ∀(b1:Nat) (V1:View),View.le V V1->View.Fin V1->V1 b1=some #[.int .u32 1] ->
 R ((Sl.mk (some (Addr.mk b1 0 none)) 1 1).v) V1) /\
 ((((p0.under.len:Int):Int)==0)=false ->
 R (p0.under.v) V)) :
 CallV Try.prog 28 #[p0.val] V R :=
 calls_of_vc (Shp:=Shp) hmixed Try.func28 (c:=Try.f28.body.getD .skip) (args:=[p0.val]) (by kernel_rfl)
 (.seq (.reg [A 1 3,A 2 2]) (.seq (.seq (.reg [A 3 7,A 1 4,A 5 0,A 6 0]) (.cond (.seq (.reg [A 7 11,A 2 2]) .leaf) .leaf)) (.seq (.reg [A 8 7,A 1 4,A 2 2]) .leaf)))
 (Eq.mpr (by kernel_rfl) h)
theorem num_Int_vc(p0:Int)(V:View)(R:Value->View->Prop)
 (h :
 CallV Try.prog 30 #[.int .i64 p0] V λv V1=>∃r1:WhV,v=r1.val /\
 R ((NumV.mk r1 (WhV.mk false (Sl.mk none 0 0)) (Sl.mk none 0 0)).val) V1) :
 CallV Try.prog 11 #[.int .i64 p0] V R :=
 calls_of_vc (Shp:=Shp) hmixed Try.func11 (c:=Try.f11.body.getD .skip) (args:=[.int .i64 p0]) (by kernel_rfl)
 (.seq (.reg [A 2 3]) (.seq (.reg [A 3 2,A 4 10,A 5 0,A 2 6]) .leaf))
 (Eq.mpr (by kernel_rfl) h)
theorem num_New_vc(p0:Int)(p1:Int)(p2:Int)(V:View)(R:Value->View->Prop)
 (h :
 (((p2:Int)==0)=true ->
 R (.tuple #[(NumV.mk (WhV.mk false (Sl.mk none 0 0)) (WhV.mk false (Sl.mk none 0 0)) (Sl.mk none 0 0)).val,.int .i64 3]) V) /\
 (((p2:Int)==0)=false ->
 CallV Try.prog 30 #[.int .i64 p0] V λv V1=>∃r1:WhV,v=r1.val /\
 CallV Try.prog 30 #[.int .i64 p1] V1 λv V2=>∃r2:WhV,v=r2.val /\
 CallV Try.prog 30 #[.int .i64 p2] V2 λv V3=>∃r3:WhV,v=r3.val /\
 (r3.neg=true ->
 CallV Try.prog 26 #[r1.val] V3 λv V4=>∃r4:WhV,v=r4.val /\
 CallV Try.prog 26 #[r2.val] V4 λv V5=>∃r5:WhV,v=r5.val /\
 CallV Try.prog 27 #[r4.val,r5.val,r3.mag.v] V5 λv V6=>∃r6:NumV,v=r6.val /\
 R (.tuple #[r6.val,.int .i64 0]) V6) /\
 (r3.neg=false ->
 CallV Try.prog 27 #[r1.val,r2.val,r3.mag.v] V3 λv V7=>∃r7:NumV,v=r7.val /\
 R (.tuple #[r7.val,.int .i64 0]) V7))) :
 CallV Try.prog 36 #[.int .i64 p0,.int .i64 p1,.int .i64 p2] V R :=
 calls_of_vc (Shp:=Shp) hmixed Try.func36 (c:=Try.f36.body.getD .skip) (args:=[.int .i64 p0,.int .i64 p1,.int .i64 p2]) (by kernel_rfl)
 (.seq (.reg [A 6 3,A 7 2]) (.seq (.seq (.reg [A 11 2,A 12 0]) (.cond (.seq (.reg [A 13 0,A 6 6,A 7 2]) .leaf) .leaf)) (.seq (.reg [A 14 2,A 15 10,A 16 2,A 17 10,A 18 2,A 19 10,A 8 3,A 9 3,A 10 3,A 8 6,A 9 6,A 10 6]) (.seq (.seq (.reg [A 20 7,A 10 4]) (.cond (.draw [(0,A 8 4),(2,A 9 4),(1,A 23 10),(3,A 25 10),(4,A 8 6),(5,A 9 6)] [0,1,0,7,15,31]) .leaf)) (.seq (.reg [A 8 4,A 9 4,A 28 7,A 10 4,A 30 10,A 6 6,A 7 2]) .leaf)))))
 (Eq.mpr (by kernel_rfl) h)
theorem Num_Add_vc(p0:NumV)(p1:NumV)(V:View)(R:Value->View->Prop)
 (h :
 CallV Try.prog 28 #[p0.val] V λv V1=>∃r1:Sl,v=r1.v /\
 CallV Try.prog 28 #[p1.val] V1 λv V2=>∃r2:Sl,v=r2.v /\
 CallV Try.prog 40 #[p0.re.val,r2.v] V2 λv V3=>∃r3:WhV,v=r3.val /\
 CallV Try.prog 40 #[p1.re.val,r1.v] V3 λv V4=>∃r4:WhV,v=r4.val /\
 CallV Try.prog 25 #[r3.val,r4.val] V4 λv V5=>∃r5:WhV,v=r5.val /\
 CallV Try.prog 40 #[p0.im.val,r2.v] V5 λv V6=>∃r6:WhV,v=r6.val /\
 CallV Try.prog 40 #[p1.im.val,r1.v] V6 λv V7=>∃r7:WhV,v=r7.val /\
 CallV Try.prog 25 #[r6.val,r7.val] V7 λv V8=>∃r8:WhV,v=r8.val /\
 CallV Try.prog 29 #[r1.v,r2.v] V8 λv V9=>∃r9:Sl,v=r9.v /\
 CallV Try.prog 27 #[r5.val,r8.val,r9.v] V9 λv V10=>∃r10:NumV,v=r10.val /\
 R (r10.val) V10) :
 CallV Try.prog 20 #[p0.val,p1.val] V R :=
 calls_of_vc (Shp:=Shp) hmixed Try.func20 (c:=Try.f20.body.getD .skip) (args:=[p0.val,p1.val]) (by kernel_rfl)
 (.seq (.reg [A 2 3,A 3 3,A 4 3]) (.seq (.draw [(0,A 2 4),(2,A 3 4),(1,A 8 10),(3,A 10 10),(4,A 5 2),(5,A 6 2)] [0,1,0,7,15,31]) (.seq (.draw [(0,A 11 7),(1,A 2 4),(2,A 13 2),(4,A 15 7),(5,A 3 4),(6,A 17 2),(9,A 20 7),(10,A 2 4),(11,A 22 2),(13,A 24 7),(14,A 3 4),(15,A 26 2),(18,A 29 2),(19,A 30 2),(3,A 14 10),(7,A 18 10),(8,A 19 10),(12,A 23 10),(16,A 27 10),(17,A 28 10),(20,A 31 10),(21,A 32 10),(22,A 4 6)] [0,1,0,7,0,16,0,127,255,0,512,0,4095,0,8192,0,65535,131071,0,0,1048575,2097151,4194303]) .leaf)))
 (Eq.mpr (by kernel_rfl) h)
theorem Num_Neg_vc(p0:NumV)(V:View)(R:Value->View->Prop)
 (h :
 CallV Try.prog 26 #[p0.re.val] V λv V1=>∃r1:WhV,v=r1.val /\
 CallV Try.prog 26 #[p0.im.val] V1 λv V2=>∃r2:WhV,v=r2.val /\
 R ((NumV.mk r1 r2 p0.under).val) V2) :
 CallV Try.prog 37 #[p0.val] V R :=
 calls_of_vc (Shp:=Shp) hmixed Try.func37 (c:=Try.f37.body.getD .skip) (args:=[p0.val]) (by kernel_rfl)
 (.seq (.reg [A 1 3,A 2 3]) (.seq (.draw [(0,A 3 7),(1,A 1 4),(3,A 6 7),(4,A 1 4),(6,A 9 7),(7,A 1 4),(2,A 5 10),(5,A 8 10),(8,A 11 0),(9,A 2 6)] [0,1,3,0,8,31,0,64,255,511]) .leaf))
 (Eq.mpr (by kernel_rfl) h)
theorem Num_Sub_vc(p0:NumV)(p1:NumV)(V:View)(R:Value->View->Prop)
 (h :
 CallV Try.prog 37 #[p1.val] V λv V1=>∃r1:NumV,v=r1.val /\
 CallV Try.prog 20 #[p0.val,r1.val] V1 λv V2=>∃r2:NumV,v=r2.val /\
 R (r2.val) V2) :
 CallV Try.prog 84 #[p0.val,p1.val] V R :=
 calls_of_vc (Shp:=Shp) hmixed Try.func84 (c:=Try.f84.body.getD .skip) (args:=[p0.val,p1.val]) (by kernel_rfl)
 (.seq (.reg [A 2 3,A 3 3,A 4 3]) (.seq (.draw [(0,A 2 4),(1,A 3 4),(2,A 7 10),(3,A 8 10),(4,A 4 6)] [0,0,2,7,15]) .leaf))
 (Eq.mpr (by kernel_rfl) h)
theorem Num_Mul_vc(p0:NumV)(p1:NumV)(V:View)(R:Value->View->Prop)
 (h :
 CallV Try.prog 24 #[p0.re.val,p1.re.val] V λv V1=>∃r1:WhV,v=r1.val /\
 CallV Try.prog 24 #[p0.im.val,p1.im.val] V1 λv V2=>∃r2:WhV,v=r2.val /\
 CallV Try.prog 26 #[r2.val] V2 λv V3=>∃r3:WhV,v=r3.val /\
 CallV Try.prog 25 #[r1.val,r3.val] V3 λv V4=>∃r4:WhV,v=r4.val /\
 CallV Try.prog 24 #[p0.re.val,p1.im.val] V4 λv V5=>∃r5:WhV,v=r5.val /\
 CallV Try.prog 24 #[p0.im.val,p1.re.val] V5 λv V6=>∃r6:WhV,v=r6.val /\
 CallV Try.prog 25 #[r5.val,r6.val] V6 λv V7=>∃r7:WhV,v=r7.val /\
 CallV Try.prog 28 #[p0.val] V7 λv V8=>∃r8:Sl,v=r8.v /\
 CallV Try.prog 28 #[p1.val] V8 λv V9=>∃r9:Sl,v=r9.v /\
 CallV Try.prog 29 #[r8.v,r9.v] V9 λv V10=>∃r10:Sl,v=r10.v /\
 CallV Try.prog 27 #[r4.val,r7.val,r10.v] V10 λv V11=>∃r11:NumV,v=r11.val /\
 R (r11.val) V11) :
 CallV Try.prog 10 #[p0.val,p1.val] V R :=
 calls_of_vc (Shp:=Shp) hmixed Try.func10 (c:=Try.f10.body.getD .skip) (args:=[p0.val,p1.val]) (by kernel_rfl)
 (.seq (.reg [A 2 3,A 3 3,A 4 3]) (.seq (.draw [(0,A 7 7),(1,A 2 4),(2,A 9 7),(3,A 3 4),(5,A 12 7),(6,A 2 4),(7,A 14 7),(8,A 3 4),(12,A 5 3),(4,A 11 10),(9,A 16 10),(10,A 17 10),(11,A 18 10),(13,A 5 6)] [0,1,0,4,15,0,32,0,128,511,1023,2047,0,8191]) (.seq (.draw [(0,A 19 7),(1,A 2 4),(2,A 21 7),(3,A 3 4),(5,A 24 7),(6,A 2 4),(7,A 26 7),(8,A 3 4),(11,A 6 3),(4,A 23 10),(9,A 28 10),(10,A 29 10),(12,A 6 6)] [0,1,0,4,15,0,32,0,128,511,1023,0,4095]) (.seq (.draw [(0,A 5 4),(1,A 6 4),(2,A 2 4),(4,A 3 4),(3,A 33 10),(5,A 35 10),(6,A 36 10),(7,A 37 10),(8,A 4 6)] [0,0,0,4,0,28,60,127,255]) .leaf))))
 (Eq.mpr (by kernel_rfl) h)
theorem Num_Same_vc(p0:NumV)(p1:NumV)(V:View)(R:Value->View->Prop)
 (h :
 CallV Try.prog 22 #[p0.re.val,p1.re.val] V λv V1=>∃r1:Int,v = .int .i64 r1 /\
 (((r1:Int)==0)=true ->
 CallV Try.prog 22 #[p0.im.val,p1.im.val] V1 λv V2=>∃r2:Int,v = .int .i64 r2 /\
 (((r2:Int)==0)=true ->
 CallV Try.prog 23 #[p0.under.v,p1.under.v] V2 λv V3=>∃r3:Int,v = .int .i64 r3 /\
 R (.bool ((r3:Int)==0)) V3) /\
 (((r2:Int)==0)=false ->
 R (.bool false) V2)) /\
 (((r1:Int)==0)=false ->
 (false=true ->
 CallV Try.prog 23 #[p0.under.v,p1.under.v] V1 λv V4=>∃r4:Int,v = .int .i64 r4 /\
 R (.bool ((r4:Int)==0)) V4) /\
 (false=false ->
 R (.bool false) V1))) :
 CallV Try.prog 9 #[p0.val,p1.val] V R :=
 calls_of_vc (Shp:=Shp) hmixed Try.func9 (c:=Try.f9.body.getD .skip) (args:=[p0.val,p1.val]) (by kernel_rfl)
 (.seq (.reg [A 2 3,A 3 3,A 4 2]) (.seq (.reg [A 5 7,A 2 4,A 7 7,A 3 4,A 9 10,A 10 0,⟨11,2,true⟩,A 12 7,A 2 4,A 14 7,A 3 4,A 16 10,A 17 0,A 18 2,⟨19,2,true⟩,A 20 7,A 2 4,A 22 7,A 3 4,A 24 10,A 25 0,A 26 2,A 4 2]) .leaf))
 (Eq.mpr (by kernel_rfl) h)
theorem Num_Real_vc(p0:NumV)(V:View)(R:Value->View->Prop)
 (h :
 R (.bool (((p0.im.mag.len:Int):Int)==0)) V) :
 CallV Try.prog 51 #[p0.val] V R :=
 calls_of_vc (Shp:=Shp) hmixed Try.func51 (c:=Try.f51.body.getD .skip) (args:=[p0.val]) (by kernel_rfl)
 (.seq (.reg [A 1 3,A 2 2]) (.seq (.reg [A 3 7,A 4 7,A 1 4,A 6 0,A 7 0,A 2 2]) .leaf))
 (Eq.mpr (by kernel_rfl) h)
theorem Num_Conj_vc(p0:NumV)(V:View)(R:Value->View->Prop)
 (h :
 CallV Try.prog 26 #[p0.im.val] V λv V1=>∃r1:WhV,v=r1.val /\
 R ((NumV.mk p0.re r1 p0.under).val) V1) :
 CallV Try.prog 82 #[p0.val] V R :=
 calls_of_vc (Shp:=Shp) hmixed Try.func82 (c:=Try.f82.body.getD .skip) (args:=[p0.val]) (by kernel_rfl)
 (.seq (.reg [A 1 3,A 2 3]) (.seq (.draw [(0,A 3 7),(1,A 1 4),(2,A 5 7),(3,A 1 4),(5,A 8 7),(6,A 1 4),(4,A 7 10),(7,A 10 0),(8,A 2 6)] [0,1,0,4,12,0,32,127,255]) .leaf))
 (Eq.mpr (by kernel_rfl) h)
theorem Num_Of_vc(p0:NumV)(p1:NumV)(V:View)(R:Value->View->Prop)
 (h :
 R (p1.val) V) :
 CallV Try.prog 83 #[p0.val,p1.val] V R :=
 calls_of_vc (Shp:=Shp) hmixed Try.func83 (c:=Try.f83.body.getD .skip) (args:=[p0.val,p1.val]) (by kernel_rfl)
 (.seq (.reg [A 2 3,A 3 3,A 4 3]) (.seq (.reg [A 3 4,A 4 6]) .leaf))
 (Eq.mpr (by kernel_rfl) h)
