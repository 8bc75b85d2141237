/- Part of the proof; it has the parts FR4. -/
import Derived.Test.YtfdaofhjkdabbaaGreatFR5
set_option maxRecDepth 100000
set_option maxHeartbeats 4000000
namespace Go.Proofs.YtfdaofhjkdabbaaGreat
open Go Go.Vc Go.Proofs
open Go.IntKind (i8 i16 i32 i64 u8 u16 u32 u64)
structure L_ref1_NatGcd_0 where
 t0:Sl
 t1:Sl
def ref1_NatGcd_f0  (_c:Unit) (w x:L_ref1_NatGcd_0):Prop:=(E2 (.val (w.t0.v)) (.val (x.t0.v))∧E2 (.val (w.t1.v)) (.val (x.t1.v))∧True)∧(True)
def ref1_NatGcd_sk (p0:Sl) (p1:Sl) (V:View) (R:Value→View→Prop) (I0:Unit→L_ref1_NatGcd_0→View→Prop) (E0:Unit→L_ref1_NatGcd_0→View→Prop) (B0:Unit→L_ref1_NatGcd_0→View→L_ref1_NatGcd_0→View→Prop):Prop :=
 E0 () (L_ref1_NatGcd_0.mk p0 p1) V ∧
 (∀(x2:L_ref1_NatGcd_0) (V1:View),View.le V V1→I0 () x2 V1 →
 ((decide (((x2.t1.len:Int):Int)>0))=true →
 CallV Tryz.prog 343 #[x2.t0.v,x2.t1.v] V1 fun v V2=>∃(r1:Sl) (r2:Sl),v = .tuple #[r1.v,r2.v] ∧
 B0 () (L_ref1_NatGcd_0.mk x2.t1 r2) V2 x2 V1) ∧
 ((decide (((x2.t1.len:Int):Int)>0))=false →
 R (x2.t0.v) V1))
theorem ref1_NatGcd_v0 (p0:Sl) (p1:Sl) (V:View) (R:Value→View→Prop) (I0:Unit→L_ref1_NatGcd_0→View→Prop) (J0:Unit→L_ref1_NatGcd_0→View→Nat) {X:Prop} (e:ref1_NatGcd_sk p0 p1 V R I0 I0 (fun c w V x U=>I0 c w V∧J0 c w V<J0 c x U)=X) (h:X) :
 CallV Tryz.prog 342 #[p0.v,p1.v] V R :=
 calls_of_vc (Shp:=Shp) hmixed Tryz.func342 (c:=Tryz.f342.body.getD .skip) (args:=[p0.v,p1.v]) (by kernel_rfl)
 (.seq (.reg [A 4 2]) (.seq (.block (.loop Unit L_ref1_NatGcd_0 (fun _=>()) (fun c x=>{ tm:=spT 19 0 [(0,.val (x.t0.v)),(1,.val (x.t1.v))],own:=spO 19 0 [] }) I0 J0 (.seq (.seq (.reg [A 7 2,A 8 0,A 9 0]) (.cond .leaf .leaf)) (.block (.seq (.reg [A 11 2,A 12 2,A 13 10,A 10 2,A 14 0,A 15 0,A 5 2,A 6 2]) (.reg [A 16 2,A 17 2,A 0 2,A 1 2])))))) (.seq (.reg [A 18 2,A 4 2]) .leaf)))
 (Eq.mpr (by kernel_rfl) (show ref1_NatGcd_sk p0 p1 V R I0 (fun c w V=>∃x,ref1_NatGcd_f0  c w x∧I0 c x V) (fun c w V y U=>∃x,ref1_NatGcd_f0  c w x∧I0 c x V∧J0 c x V<J0 c y U)from by
 have h:=Eq.mpr e h; unfold ref1_NatGcd_sk at h ⊢; have Ee0:=fun c w V (h:I0 c w V)=>(⟨w,⟨⟨rfl,rfl,trivial⟩,trivial⟩,h⟩:∃x,ref1_NatGcd_f0  c w x∧I0 c x V); have Bb0:=fun c w V y U (h:I0 c w V∧J0 c w V<J0 c y U)=>(⟨w,⟨⟨rfl,rfl,trivial⟩,trivial⟩,h⟩:∃x,ref1_NatGcd_f0  c w x∧I0 c x V∧J0 c x V<J0 c y U); exact⟨(Ee0 _ _ _ h.1),fun x2 V1 h4 h5=>⟨fun h3=>(CallV.mono ((h.2 x2 V1 h4 h5).1 h3) (fun _ _ _ ⟨r1,r2,h2,h1⟩=>⟨r1,r2,h2,(Bb0 _ _ _ _ _ h1)⟩)),fun h3=>((h.2 x2 V1 h4 h5).2 h3)⟩⟩))
theorem ref1_NatGcd_vc:type_of% (fun p0 p1 V R I0 J0=>ref1_NatGcd_v0 p0 p1 V R I0 J0 (ref1_NatGcd_sk.eq_1 ..)):=fun p0 p1 V R I0 J0=>ref1_NatGcd_v0 p0 p1 V R I0 J0 (ref1_NatGcd_sk.eq_1 ..)
theorem ref1_signed_vc (p0:Bool) (p1:Sl) (V:View) (R:Value→View→Prop)
 (h :
 (p0=true →
 R ((WhV.mk (decide (((p1.len:Int):Int)>0)) p1).val) V) ∧
 (p0=false →
 R ((WhV.mk false p1).val) V)) :
 CallV Tryz.prog 344 #[.bool p0,p1.v] V R :=
 calls_of_vc (Shp:=Shp) hmixed Tryz.func344 (c:=Tryz.f344.body.getD .skip) (args:=[.bool p0,p1.v]) (by kernel_rfl)
 (.seq (.reg [A 4 3]) (.seq (.reg [A 5 2,⟨6,2,true⟩,A 7 2,A 8 0,A 9 0,A 10 2,A 11 2,A 12 0,A 4 6]) .leaf))
 (Eq.mpr (by kernel_rfl) h)
theorem ref1_IntOf_vc (p0:Int) (V:View) (R:Value→View→Prop)
 (h :
 ((decide ((p0:Int)<0))=true →
 CallV Tryz.prog 341 #[.int .u64 (u64.wrap (i64.wrap (0-p0)))] V fun v V1=>∃r1:Sl,v=r1.v ∧
 R ((WhV.mk true r1).val) V1) ∧
 ((decide ((p0:Int)<0))=false →
 CallV Tryz.prog 341 #[.int .u64 (u64.wrap p0)] V fun v V2=>∃r2:Sl,v=r2.v ∧
 R ((WhV.mk false r2).val) V2)) :
 CallV Tryz.prog 264 #[.int .i64 p0] V R :=
 calls_of_vc (Shp:=Shp) hmixed Tryz.func264 (c:=Tryz.f264.body.getD .skip) (args:=[.int .i64 p0]) (by kernel_rfl)
 (.seq (.reg [A 2 3]) (.seq (.seq (.reg [A 3 2,A 4 0]) (.cond (.seq (.reg [A 5 2,A 6 0,A 7 0,A 8 10,A 9 0,A 2 6]) .leaf) .leaf)) (.seq (.reg [A 10 2,A 11 0,A 12 10,A 13 0,A 2 6]) .leaf)))
 (Eq.mpr (by kernel_rfl) h)
theorem ref1_IntNeg_vc (p0:WhV) (V:View) (R:Value→View→Prop)
 (h :
 CallV Tryz.prog 344 #[.bool (!p0.neg),p0.mag.v] V fun v V1=>∃r1:WhV,v=r1.val ∧
 R (r1.val) V1) :
 CallV Tryz.prog 283 #[p0.val] V R :=
 calls_of_vc (Shp:=Shp) hmixed Tryz.func283 (c:=Tryz.f283.body.getD .skip) (args:=[p0.val]) (by kernel_rfl)
 (.seq (.reg [A 1 3,A 2 3]) (.seq (.reg [A 3 7,A 1 4,A 5 0,A 6 7,A 1 4,A 8 10,A 2 6]) .leaf))
 (Eq.mpr (by kernel_rfl) h)
theorem ref1_IntSub_vc (p0:WhV) (p1:WhV) (V:View) (R:Value→View→Prop)
 (h :
 CallV Tryz.prog 283 #[p1.val] V fun v V1=>∃r1:WhV,v=r1.val ∧
 CallV Tryz.prog 266 #[p0.val,r1.val] V1 fun v V2=>∃r2:WhV,v=r2.val ∧
 R (r2.val) V2) :
 CallV Tryz.prog 269 #[p0.val,p1.val] V R :=
 calls_of_vc (Shp:=Shp) hmixed Tryz.func269 (c:=Tryz.f269.body.getD .skip) (args:=[p0.val,p1.val]) (by kernel_rfl)
 (.seq (.reg [A 2 3,A 3 3,A 4 3]) (.seq (.draw [(0,A 2 4),(1,A 3 4),(2,A 7 10),(3,A 8 10),(4,A 4 6)] [0,0,2,7,15]) .leaf))
 (Eq.mpr (by kernel_rfl) h)
theorem ref1_IntMul_vc (p0:WhV) (p1:WhV) (V:View) (R:Value→View→Prop)
 (h :
 CallV Tryz.prog 268 #[p0.mag.v,p1.mag.v] V fun v V1=>∃r1:Sl,v=r1.v ∧
 CallV Tryz.prog 344 #[.bool (!(p0.neg==p1.neg)),r1.v] V1 fun v V2=>∃r2:WhV,v=r2.val ∧
 R (r2.val) V2) :
 CallV Tryz.prog 267 #[p0.val,p1.val] V R :=
 calls_of_vc (Shp:=Shp) hmixed Tryz.func267 (c:=Tryz.f267.body.getD .skip) (args:=[p0.val,p1.val]) (by kernel_rfl)
 (.seq (.reg [A 2 3,A 3 3,A 4 3]) (.seq (.draw [(0,A 5 7),(1,A 2 4),(2,A 7 7),(3,A 3 4),(4,A 9 0),(5,A 10 7),(6,A 2 4),(7,A 12 7),(8,A 3 4),(9,A 14 10),(10,A 15 10),(11,A 4 6)] [0,1,0,4,15,0,32,0,128,480,1023,2047]) .leaf))
 (Eq.mpr (by kernel_rfl) h)
theorem ref1_IntAdd_vc (p0:WhV) (p1:WhV) (V:View) (R:Value→View→Prop)
 (h :
 ((p0.neg==p1.neg)=true →
 CallV Tryz.prog 345 #[p0.mag.v,p1.mag.v] V fun v V1=>∃r1:Sl,v=r1.v ∧
 CallV Tryz.prog 344 #[.bool p0.neg,r1.v] V1 fun v V2=>∃r2:WhV,v=r2.val ∧
 R (r2.val) V2) ∧
 ((p0.neg==p1.neg)=false →
 CallV Tryz.prog 346 #[p0.mag.v,p1.mag.v] V fun v V3=>∃r3:Int,v = .int .i64 r3 ∧
 ((decide ((r3:Int)≥0))=true →
 CallV Tryz.prog 347 #[p0.mag.v,p1.mag.v] V3 fun v V4=>∃r4:Sl,v=r4.v ∧
 CallV Tryz.prog 344 #[.bool p0.neg,r4.v] V4 fun v V5=>∃r5:WhV,v=r5.val ∧
 R (r5.val) V5) ∧
 ((decide ((r3:Int)≥0))=false →
 CallV Tryz.prog 347 #[p1.mag.v,p0.mag.v] V3 fun v V6=>∃r6:Sl,v=r6.v ∧
 CallV Tryz.prog 344 #[.bool p1.neg,r6.v] V6 fun v V7=>∃r7:WhV,v=r7.val ∧
 R (r7.val) V7))) :
 CallV Tryz.prog 266 #[p0.val,p1.val] V R :=
 calls_of_vc (Shp:=Shp) hmixed Tryz.func266 (c:=Tryz.f266.body.getD .skip) (args:=[p0.val,p1.val]) (by kernel_rfl)
 (.seq (.reg [A 2 3,A 3 3,A 4 3]) (.seq (.seq (.reg [A 5 7,A 2 4,A 7 7,A 3 4,A 9 0]) (.cond (.seq (.draw [(0,A 10 7),(1,A 2 4),(2,A 12 7),(3,A 2 4),(4,A 14 7),(5,A 3 4),(6,A 16 10),(7,A 17 10),(8,A 4 6)] [0,1,0,4,0,16,60,127,255]) .leaf) .leaf)) (.seq (.seq (.reg [A 18 7,A 2 4,A 20 7,A 3 4,A 22 10,A 23 0]) (.cond (.seq (.draw [(0,A 24 7),(1,A 2 4),(2,A 26 7),(3,A 2 4),(4,A 28 7),(5,A 3 4),(6,A 30 10),(7,A 31 10),(8,A 4 6)] [0,1,0,4,0,16,60,127,255]) .leaf) .leaf)) (.seq (.draw [(0,A 32 7),(1,A 3 4),(2,A 34 7),(3,A 3 4),(4,A 36 7),(5,A 2 4),(6,A 38 10),(7,A 39 10),(8,A 4 6)] [0,1,0,4,0,16,60,127,255]) .leaf))))
 (Eq.mpr (by kernel_rfl) h)
theorem ref1_Make_vc (p0:WhV) (p1:WhV) (p2:Sl) (V:View) (R:Value→View→Prop)
 (h :
 CallV Tryz.prog 342 #[p0.mag.v,p1.mag.v] V fun v V1=>∃r1:Sl,v=r1.v ∧
 CallV Tryz.prog 342 #[r1.v,p2.v] V1 fun v V2=>∃r2:Sl,v=r2.v ∧
 ((((r2.len:Int):Int)==1)=true →
 ((0:Int)≤0∧(0:Int)<(r2.len:Nat)∧Option.isSome r2.a=true) ∧
 ∃x1:Int,View.load V2 (Option.map (fun q=>Addr.add q (Int.toNat 0*1)) r2.a)=some (.int .u32 x1) ∧
 (((x1:Int)==1)=true →
 R ((NumV.mk p0 p1 p2).val) V2) ∧
 (((x1:Int)==1)=false →
 CallV Tryz.prog 343 #[p0.mag.v,r2.v] V2 fun v V3=>∃(r3:Sl) (r4:Sl),v = .tuple #[r3.v,r4.v] ∧
 CallV Tryz.prog 343 #[p1.mag.v,r2.v] V3 fun v V4=>∃(r5:Sl) (r6:Sl),v = .tuple #[r5.v,r6.v] ∧
 CallV Tryz.prog 343 #[p2.v,r2.v] V4 fun v V5=>∃(r7:Sl) (r8:Sl),v = .tuple #[r7.v,r8.v] ∧
 CallV Tryz.prog 344 #[.bool p0.neg,r3.v] V5 fun v V6=>∃r9:WhV,v=r9.val ∧
 CallV Tryz.prog 344 #[.bool p1.neg,r5.v] V6 fun v V7=>∃r10:WhV,v=r10.val ∧
 R ((NumV.mk r9 r10 r7).val) V7)) ∧
 ((((r2.len:Int):Int)==1)=false →
 (false=true →
 R ((NumV.mk p0 p1 p2).val) V2) ∧
 (false=false →
 CallV Tryz.prog 343 #[p0.mag.v,r2.v] V2 fun v V8=>∃(r11:Sl) (r12:Sl),v = .tuple #[r11.v,r12.v] ∧
 CallV Tryz.prog 343 #[p1.mag.v,r2.v] V8 fun v V9=>∃(r13:Sl) (r14:Sl),v = .tuple #[r13.v,r14.v] ∧
 CallV Tryz.prog 343 #[p2.v,r2.v] V9 fun v V10=>∃(r15:Sl) (r16:Sl),v = .tuple #[r15.v,r16.v] ∧
 CallV Tryz.prog 344 #[.bool p0.neg,r11.v] V10 fun v V11=>∃r17:WhV,v=r17.val ∧
 CallV Tryz.prog 344 #[.bool p1.neg,r13.v] V11 fun v V12=>∃r18:WhV,v=r18.val ∧
 R ((NumV.mk r17 r18 r15).val) V12))) :
 CallV Tryz.prog 265 #[p0.val,p1.val,p2.v] V R :=
 calls_of_vc (Shp:=Shp) hmixed Tryz.func265 (c:=Tryz.f265.body.getD .skip) (args:=[p0.val,p1.val,p2.v]) (by kernel_rfl)
 (.seq (.reg [A 3 3,A 4 3,A 6 3]) (.seq (.reg [A 14 7,A 3 4,A 16 7,A 4 4,A 18 10,A 19 2,A 20 10,A 7 2]) (.seq (.seq (.reg [A 21 2,A 22 0,A 23 0,⟨24,2,true⟩,A 25 2,A 26 7,A 27 5,A 28 0,A 29 2]) (.cond (.seq (.reg [A 3 4,A 4 4,A 32 2,A 33 0,A 6 6]) .leaf) .leaf)) (.seq (.reg [A 35 7,A 3 4,A 37 2,A 38 10,A 34 2,A 39 0,A 40 0,A 8 2,A 9 2]) (.seq (.reg [A 42 7,A 4 4,A 44 2,A 45 10,A 41 2,A 46 0,A 47 0,A 10 2,A 11 2]) (.seq (.reg [A 49 2,A 50 2,A 51 10,A 48 2,A 52 0,A 53 0,A 12 2,A 13 2]) (.seq (.draw [(0,A 54 7),(1,A 3 4),(2,A 56 2),(4,A 58 7),(5,A 4 4),(6,A 60 2),(8,A 62 2),(3,A 57 10),(7,A 61 10),(9,A 63 0),(10,A 6 6)] [0,1,0,7,0,16,0,127,0,511,1023]) .leaf)))))))
 (Eq.mpr (by kernel_rfl) h)
theorem ref1_New_vc (p0:Int) (p1:Int) (p2:Int) (V:View) (R:Value→View→Prop)
 (h :
 (((p2:Int)==0)=true →
 CallV Tryz.prog 152 #[.int .i64 0] V fun v V1=>∃r1:NumV,v=r1.val ∧
 R (.tuple #[r1.val,.int .i64 3]) V1) ∧
 (((p2:Int)==0)=false →
 CallV Tryz.prog 264 #[.int .i64 p2] V fun v V2=>∃r2:WhV,v=r2.val ∧
 CallV Tryz.prog 264 #[.int .i64 p0] V2 fun v V3=>∃r3:WhV,v=r3.val ∧
 CallV Tryz.prog 264 #[.int .i64 p1] V3 fun v V4=>∃r4:WhV,v=r4.val ∧
 (r2.neg=true →
 CallV Tryz.prog 283 #[r3.val] V4 fun v V5=>∃r5:WhV,v=r5.val ∧
 CallV Tryz.prog 283 #[r4.val] V5 fun v V6=>∃r6:WhV,v=r6.val ∧
 CallV Tryz.prog 265 #[r5.val,r6.val,r2.mag.v] V6 fun v V7=>∃r7:NumV,v=r7.val ∧
 R (.tuple #[r7.val,.int .i64 0]) V7) ∧
 (r2.neg=false →
 CallV Tryz.prog 265 #[r3.val,r4.val,r2.mag.v] V4 fun v V8=>∃r8:NumV,v=r8.val ∧
 R (.tuple #[r8.val,.int .i64 0]) V8))) :
 CallV Tryz.prog 182 #[.int .i64 p0,.int .i64 p1,.int .i64 p2] V R :=
 calls_of_vc (Shp:=Shp) hmixed Tryz.func182 (c:=Tryz.f182.body.getD .skip) (args:=[.int .i64 p0,.int .i64 p1,.int .i64 p2]) (by kernel_rfl)
 (.seq (.reg [A 6 3,A 7 2]) (.seq (.seq (.reg [A 11 2,A 12 0]) (.cond (.seq (.reg [A 13 10,A 6 6,A 7 2]) .leaf) .leaf)) (.seq (.reg [A 14 2,A 15 10,A 8 3,A 8 6]) (.seq (.reg [A 16 2,A 17 10,A 18 2,A 19 10,A 9 3,A 10 3,A 9 6,A 10 6]) (.seq (.seq (.reg [A 20 7,A 8 4]) (.cond (.draw [(0,A 9 4),(2,A 10 4),(1,A 23 10),(3,A 25 10),(4,A 9 6),(5,A 10 6)] [0,1,0,7,15,31]) .leaf)) (.seq (.reg [A 9 4,A 10 4,A 28 7,A 8 4,A 30 10,A 6 6,A 7 2]) .leaf))))))
 (Eq.mpr (by kernel_rfl) h)
theorem ref1_Of_vc (p0:RatV) (V:View) (R:Value→View→Prop)
 (h :
 (((p0.den:Int)==0)=true →
 CallV Tryz.prog 182 #[.int .i64 p0.re,.int .i64 p0.im,.int .i64 1] V fun v V1=>∃(r1:NumV) (r2:Int),v = .tuple #[r1.val,.int .i64 r2] ∧
 R (r1.val) V1) ∧
 (((p0.den:Int)==0)=false →
 CallV Tryz.prog 182 #[.int .i64 p0.re,.int .i64 p0.im,.int .i64 p0.den] V fun v V2=>∃(r3:NumV) (r4:Int),v = .tuple #[r3.val,.int .i64 r4] ∧
 R (r3.val) V2)) :
 CallV Tryz.prog 71 #[p0.val] V R :=
 calls_of_vc (Shp:=Shp) hmixed Tryz.func71 (c:=Tryz.f71.body.getD .skip) (args:=[p0.val]) (by kernel_rfl)
 (.seq (.reg [A 1 3,A 2 3]) (.seq (.seq (.reg [A 5 7,A 1 4,A 7 0]) (.cond (.reg [A 8 7,A 1 6]) .leaf)) (.seq (.reg [A 10 7,A 1 4,A 12 7,A 1 4,A 14 7,A 1 4,A 16 10,A 9 2,A 17 0,A 18 0,A 3 3,A 3 6,A 4 2]) (.seq (.reg [A 3 4,A 2 6]) .leaf))))
 (Eq.mpr (by kernel_rfl) h)
theorem ref1_Add_vc (p0:NumV) (p1:NumV) (V:View) (R:Value→View→Prop)
 (h :
 CallV Tryz.prog 267 #[p0.re.val,(WhV.mk false p1.under).val] V fun v V1=>∃r1:WhV,v=r1.val ∧
 CallV Tryz.prog 267 #[p1.re.val,(WhV.mk false p0.under).val] V1 fun v V2=>∃r2:WhV,v=r2.val ∧
 CallV Tryz.prog 266 #[r1.val,r2.val] V2 fun v V3=>∃r3:WhV,v=r3.val ∧
 CallV Tryz.prog 267 #[p0.im.val,(WhV.mk false p1.under).val] V3 fun v V4=>∃r4:WhV,v=r4.val ∧
 CallV Tryz.prog 267 #[p1.im.val,(WhV.mk false p0.under).val] V4 fun v V5=>∃r5:WhV,v=r5.val ∧
 CallV Tryz.prog 266 #[r4.val,r5.val] V5 fun v V6=>∃r6:WhV,v=r6.val ∧
 CallV Tryz.prog 268 #[p0.under.v,p1.under.v] V6 fun v V7=>∃r7:Sl,v=r7.v ∧
 CallV Tryz.prog 265 #[r3.val,r6.val,r7.v] V7 fun v V8=>∃r8:NumV,v=r8.val ∧
 R (r8.val) V8) :
 CallV Tryz.prog 153 #[p0.val,p1.val] V R :=
 calls_of_vc (Shp:=Shp) hmixed Tryz.func153 (c:=Tryz.f153.body.getD .skip) (args:=[p0.val,p1.val]) (by kernel_rfl)
 (.seq (.reg [A 2 3,A 3 3,A 4 3]) (.seq (.draw [(0,A 7 7),(1,A 2 4),(2,A 9 0),(3,A 10 7),(4,A 3 4),(5,A 12 0),(6,A 5 3),(7,A 6 3),(8,A 5 6),(9,A 6 6)] [0,1,3,0,8,24,0,0,199,511]) (.seq (.draw [(0,A 13 7),(1,A 2 4),(2,A 6 4),(4,A 17 7),(5,A 3 4),(6,A 5 4),(9,A 22 7),(10,A 2 4),(11,A 6 4),(13,A 26 7),(14,A 3 4),(15,A 5 4),(18,A 31 7),(19,A 2 4),(20,A 33 7),(21,A 3 4),(3,A 16 10),(7,A 20 10),(8,A 21 10),(12,A 25 10),(16,A 29 10),(17,A 30 10),(22,A 35 10),(23,A 36 10),(24,A 4 6)] [0,1,0,7,0,16,0,127,255,0,512,0,4095,0,8192,0,65535,131071,0,262144,0,1048576,4194303,8388607,16777215]) .leaf)))
 (Eq.mpr (by kernel_rfl) h)
theorem ref1_Mul_vc (p0:NumV) (p1:NumV) (V:View) (R:Value→View→Prop)
 (h :
 CallV Tryz.prog 267 #[p0.re.val,p1.re.val] V fun v V1=>∃r1:WhV,v=r1.val ∧
 CallV Tryz.prog 267 #[p0.im.val,p1.im.val] V1 fun v V2=>∃r2:WhV,v=r2.val ∧
 CallV Tryz.prog 269 #[r1.val,r2.val] V2 fun v V3=>∃r3:WhV,v=r3.val ∧
 CallV Tryz.prog 267 #[p0.re.val,p1.im.val] V3 fun v V4=>∃r4:WhV,v=r4.val ∧
 CallV Tryz.prog 267 #[p0.im.val,p1.re.val] V4 fun v V5=>∃r5:WhV,v=r5.val ∧
 CallV Tryz.prog 266 #[r4.val,r5.val] V5 fun v V6=>∃r6:WhV,v=r6.val ∧
 CallV Tryz.prog 268 #[p0.under.v,p1.under.v] V6 fun v V7=>∃r7:Sl,v=r7.v ∧
 CallV Tryz.prog 265 #[r3.val,r6.val,r7.v] V7 fun v V8=>∃r8:NumV,v=r8.val ∧
 R (r8.val) V8) :
 CallV Tryz.prog 154 #[p0.val,p1.val] V R :=
 calls_of_vc (Shp:=Shp) hmixed Tryz.func154 (c:=Tryz.f154.body.getD .skip) (args:=[p0.val,p1.val]) (by kernel_rfl)
 (.seq (.reg [A 2 3,A 3 3,A 4 3]) (.seq (.draw [(0,A 5 7),(1,A 2 4),(2,A 7 7),(3,A 3 4),(5,A 10 7),(6,A 2 4),(7,A 12 7),(8,A 3 4),(11,A 16 7),(12,A 2 4),(13,A 18 7),(14,A 3 4),(16,A 21 7),(17,A 2 4),(18,A 23 7),(19,A 3 4),(22,A 27 7),(23,A 2 4),(24,A 29 7),(25,A 3 4),(4,A 9 10),(9,A 14 10),(10,A 15 10),(15,A 20 10),(20,A 25 10),(21,A 26 10),(26,A 31 10),(27,A 32 10),(28,A 4 6)] [0,1,0,4,15,0,32,0,128,511,1023,0,2048,0,8192,32767,0,65536,0,262144,1048575,2097151,0,4194304,0,16777216,67108863,134217727,268435455]) .leaf))
 (Eq.mpr (by kernel_rfl) h)
theorem ref1_Neg_vc (p0:NumV) (V:View) (R:Value→View→Prop)
 (h :
 CallV Tryz.prog 283 #[p0.re.val] V fun v V1=>∃r1:WhV,v=r1.val ∧
 CallV Tryz.prog 283 #[p0.im.val] V1 fun v V2=>∃r2:WhV,v=r2.val ∧
 R ((NumV.mk r1 r2 p0.under).val) V2) :
 CallV Tryz.prog 318 #[p0.val] V R :=
 calls_of_vc (Shp:=Shp) hmixed Tryz.func318 (c:=Tryz.f318.body.getD .skip) (args:=[p0.val]) (by kernel_rfl)
 (.seq (.reg [A 1 3,A 2 3]) (.seq (.draw [(0,A 3 7),(1,A 1 4),(3,A 6 7),(4,A 1 4),(6,A 9 7),(7,A 1 4),(2,A 5 10),(5,A 8 10),(8,A 11 0),(9,A 2 6)] [0,1,3,0,8,31,0,64,255,511]) .leaf))
 (Eq.mpr (by kernel_rfl) h)
theorem ref1_Sub_vc (p0:NumV) (p1:NumV) (V:View) (R:Value→View→Prop)
 (h :
 CallV Tryz.prog 318 #[p1.val] V fun v V1=>∃r1:NumV,v=r1.val ∧
 CallV Tryz.prog 153 #[p0.val,r1.val] V1 fun v V2=>∃r2:NumV,v=r2.val ∧
 R (r2.val) V2) :
 CallV Tryz.prog 230 #[p0.val,p1.val] V R :=
 calls_of_vc (Shp:=Shp) hmixed Tryz.func230 (c:=Tryz.f230.body.getD .skip) (args:=[p0.val,p1.val]) (by kernel_rfl)
 (.seq (.reg [A 2 3,A 3 3,A 4 3]) (.seq (.draw [(0,A 2 4),(1,A 3 4),(2,A 7 10),(3,A 8 10),(4,A 4 6)] [0,0,2,7,15]) .leaf))
 (Eq.mpr (by kernel_rfl) h)
theorem ref1_Conj_vc (p0:NumV) (V:View) (R:Value→View→Prop)
 (h :
 CallV Tryz.prog 283 #[p0.im.val] V fun v V1=>∃r1:WhV,v=r1.val ∧
 R ((NumV.mk p0.re r1 p0.under).val) V1) :
 CallV Tryz.prog 308 #[p0.val] V R :=
 calls_of_vc (Shp:=Shp) hmixed Tryz.func308 (c:=Tryz.f308.body.getD .skip) (args:=[p0.val]) (by kernel_rfl)
 (.seq (.reg [A 1 3,A 2 3]) (.seq (.draw [(0,A 3 7),(1,A 1 4),(2,A 5 7),(3,A 1 4),(5,A 8 7),(6,A 1 4),(4,A 7 10),(7,A 10 0),(8,A 2 6)] [0,1,0,4,12,0,32,127,255]) .leaf))
 (Eq.mpr (by kernel_rfl) h)
end Go.Proofs.YtfdaofhjkdabbaaGreat
