/- Part of the proof; it has the parts FRf1. -/
import Derived.Test.YtfdaofhjkdabbaaGreatFLs1
set_option maxRecDepth 100000
set_option maxHeartbeats 4000000
namespace Go.Proofs.YtfdaofhjkdabbaaGreat
open Go Go.Vc Go.Proofs
open Go.IntKind (i8 i16 i32 i64 u8 u16 u32 u64)
structure L_waveportref07_Length_0 where
 t3:Int
def waveportref07_Length_f0 (p0:Int) (_c:Unit) (w x:L_waveportref07_Length_0):Prop:=(Q1 (.val (.int .i64 p0))∧E2 (.val (.int .i64 w.t3)) (.val (.int .i64 x.t3))∧True)∧(True)
def waveportref07_Length_sk (p0:Int) (V:View) (R:Value→View→Prop) (I0:Unit→L_waveportref07_Length_0→View→Prop) (E0:Unit→L_waveportref07_Length_0→View→Prop) (B0:Unit→L_waveportref07_Length_0→View→L_waveportref07_Length_0→View→Prop):Prop :=
 E0 () (L_waveportref07_Length_0.mk 1) V ∧
 (∀(x2:L_waveportref07_Length_0) (V1:View),View.le V V1→I0 () x2 V1 →
 ((decide ((x2.t3:Int)≤64))=true →
 (((p0:Int)==x2.t3)=true →
 R (.bool true) V1) ∧
 (((p0:Int)==x2.t3)=false →
 B0 () (L_waveportref07_Length_0.mk (i64.wrap (x2.t3*2))) V1 x2 V1)) ∧
 ((decide ((x2.t3:Int)≤64))=false →
 R (.bool false) V1))
theorem waveportref07_Length_v0 (p0:Int) (V:View) (R:Value→View→Prop) (I0:Unit→L_waveportref07_Length_0→View→Prop) (J0:Unit→L_waveportref07_Length_0→View→Nat) {X:Prop} (e:waveportref07_Length_sk p0 V R I0 I0 (fun c w V x U=>I0 c w V∧J0 c w V<J0 c x U)=X) (h:X) :
 CallV Tryz.prog 128 #[.int .i64 p0] V R :=
 calls_of_vc (Shp:=Shp) hmixed Tryz.func128 (c:=Tryz.f128.body.getD .skip) (args:=[.int .i64 p0]) (by kernel_rfl)
 (.seq (.reg [A 2 2]) (.seq (.seq (.reg [A 3 2]) (.block (.loop Unit L_waveportref07_Length_0 (fun _=>()) (fun c x=>{ tm:=spT 11 0 [(0,.val (.int .i64 p0)),(3,.val (.int .i64 x.t3))],own:=spO 11 0 [] }) I0 J0 (.seq (.seq (.reg [A 4 2,A 5 0]) (.cond .leaf .leaf)) (.seq (.block (.seq (.reg [A 8 2,A 9 2,A 10 0]) (.cond (.seq (.reg [A 2 2]) .leaf) .leaf))) (.reg [A 6 2,A 7 0,A 3 2])))))) (.seq (.reg [A 2 2]) .leaf)))
 (Eq.mpr (by kernel_rfl) (show waveportref07_Length_sk p0 V R I0 (fun c w V=>∃x,waveportref07_Length_f0 p0 c w x∧I0 c x V) (fun c w V y U=>∃x,waveportref07_Length_f0 p0 c w x∧I0 c x V∧J0 c x V<J0 c y U)from by
 have h:=Eq.mpr e h; unfold waveportref07_Length_sk at h ⊢; have Ee0:=fun c w V (h:I0 c w V)=>(⟨w,⟨⟨rfl,rfl,trivial⟩,trivial⟩,h⟩:∃x,waveportref07_Length_f0 p0 c w x∧I0 c x V); have Bb0:=fun c w V y U (h:I0 c w V∧J0 c w V<J0 c y U)=>(⟨w,⟨⟨rfl,rfl,trivial⟩,trivial⟩,h⟩:∃x,waveportref07_Length_f0 p0 c w x∧I0 c x V∧J0 c x V<J0 c y U); exact⟨(Ee0 _ _ _ h.1),fun x2 V1 h3 h4=>⟨fun h2=>⟨fun h1=>(((h.2 x2 V1 h3 h4).1 h2).1 h1),fun h1=>(Bb0 _ _ _ _ _ (((h.2 x2 V1 h3 h4).1 h2).2 h1))⟩,fun h2=>((h.2 x2 V1 h3 h4).2 h2)⟩⟩))
theorem waveportref07_Length_vc:type_of% (fun p0 V R I0 J0=>waveportref07_Length_v0 p0 V R I0 J0 (waveportref07_Length_sk.eq_1 ..)):=fun p0 V R I0 J0=>waveportref07_Length_v0 p0 V R I0 J0 (waveportref07_Length_sk.eq_1 ..)
structure L_waveportlaw07_refList_0 where
 t11:Int
 o8:List Value
def waveportlaw07_refList_f0 (p0:Sl) (_c:Unit) (w x:L_waveportlaw07_refList_0):Prop:=(Q1 (.osl 8 0 (Int.toNat (p0.len:Int)) (Int.toNat (p0.len:Int)))∧Q1 (.val (p0.v))∧Q1 (.val (.int .i64 (p0.len:Int)))∧E2 (.val (.int .i64 w.t11)) (.val (.int .i64 x.t11))∧True)∧(O2 ⟨118,.dyn w.o8⟩ ⟨118,.dyn x.o8⟩∧True)
def waveportlaw07_refList_sk (p0:Sl) (V:View) (R:Value→View→Prop) (I0:Unit→L_waveportlaw07_refList_0→View→Prop) (E0:Unit→L_waveportlaw07_refList_0→View→Prop) (B0:Unit→L_waveportlaw07_refList_0→View→L_waveportlaw07_refList_0→View→Prop):Prop :=
 ((0:Int)≤(p0.len:Int)∧((p0.len:Int):Int)≤(p0.len:Int)∧(88:Int)*(p0.len:Int)≤281474976710656∧((p0.len:Int):Int)≤9223372036854775807) ∧
 E0 () (L_waveportlaw07_refList_0.mk 0 ((List.replicate (Int.toNat (p0.len:Int)) [Value.bool false,Value.slice none 0 0,Value.bool false,Value.slice none 0 0,Value.slice none 0 0]).flatten)) V ∧
 (∀(x2:L_waveportlaw07_refList_0) (V1:View),View.le V V1→I0 () x2 V1 →
 ((decide ((x2.t11:Int)<(p0.len:Int)))=true →
 ((0:Int)≤x2.t11∧(x2.t11:Int)<(p0.len:Nat)∧Option.isSome p0.a=true) ∧
 ∃x3:RatV,View.has V1 (Option.map (fun q=>Addr.add q (Int.toNat x2.t11*3)) p0.a) (x3.val).cells.toList∧Option.isSome (Option.map (fun q=>Addr.add q (Int.toNat x2.t11*3)) p0.a)=true ∧
 CallV Tryz.prog 71 #[x3.val] V1 fun v V2=>∃r1:NumV,v=r1.val ∧
 ((0:Int)≤x2.t11∧(x2.t11:Int)<(Int.toNat (p0.len:Int):Nat)) ∧
 0+Int.toNat x2.t11*5+5≤List.length x2.o8 ∧
 B0 () (L_waveportlaw07_refList_0.mk (i64.wrap (x2.t11+1)) (setL x2.o8 (0+Int.toNat x2.t11*5) [.bool r1.re.neg,r1.re.mag.v,.bool r1.im.neg,r1.im.mag.v,r1.under.v])) V2 x2 V1) ∧
 ((decide ((x2.t11:Int)<(p0.len:Int)))=false →
 ∀(b1:Nat) (V3:View),View.le V1 V3→V3 b1=some (List.toArray x2.o8) →
 R ((Sl.mk (some (Addr.mk b1 0 none)) (Int.toNat (p0.len:Int)) (Int.toNat (p0.len:Int))).v) V3))
theorem waveportlaw07_refList_v0 (p0:Sl) (V:View) (R:Value→View→Prop) (I0:Unit→L_waveportlaw07_refList_0→View→Prop) (J0:Unit→L_waveportlaw07_refList_0→View→Nat) {X:Prop} (e:waveportlaw07_refList_sk p0 V R I0 I0 (fun c w V x U=>I0 c w V∧J0 c w V<J0 c x U)=X) (h:X) :
 CallV Tryz.prog 25 #[p0.v] V R :=
 calls_of_vc (Shp:=Shp) hmixed Tryz.func25 (c:=Tryz.f25.body.getD .skip) (args:=[p0.v]) (by kernel_rfl)
 (.seq (.reg [A 2 2]) (.seq (.reg [A 6 2,A 7 0,A 8 3,A 3 2]) (.seq (.seq (.reg [A 9 2,A 10 0,A 11 2]) (.block (.loop Unit L_waveportlaw07_refList_0 (fun _=>()) (fun c x=>{ tm:=spT 23 0 [(3,.osl 8 0 (Int.toNat (p0.len:Int)) (Int.toNat (p0.len:Int))),(9,.val (p0.v)),(10,.val (.int .i64 (p0.len:Int))),(11,.val (.int .i64 x.t11))],own:=spO 23 0 [(8,⟨118,.dyn x.o8⟩)] }) I0 J0 (.seq (.reg [A 12 0]) (.seq (.cond .leaf .leaf) (.seq (.block (.seq (.reg [A 13 2,A 14 7,A 15 5,A 5 3,A 4 2,A 5 6]) (.reg [A 16 2,A 17 2,A 5 4,A 19 10,A 20 7,A 8 6]))) (.reg [A 21 0,A 11 2]))))))) (.seq (.reg [A 22 2,A 2 2]) (.pub 8 .leaf)))))
 (Eq.mpr (by kernel_rfl) (show waveportlaw07_refList_sk p0 V R I0 (fun c w V=>∃x,waveportlaw07_refList_f0 p0 c w x∧I0 c x V) (fun c w V y U=>∃x,waveportlaw07_refList_f0 p0 c w x∧I0 c x V∧J0 c x V<J0 c y U)from by
 have h:=Eq.mpr e h; unfold waveportlaw07_refList_sk at h ⊢; have Ee0:=fun c w V (h:I0 c w V)=>(⟨w,⟨⟨rfl,rfl,rfl,rfl,trivial⟩,⟨rfl,trivial⟩⟩,h⟩:∃x,waveportlaw07_refList_f0 p0 c w x∧I0 c x V); have Bb0:=fun c w V y U (h:I0 c w V∧J0 c w V<J0 c y U)=>(⟨w,⟨⟨rfl,rfl,rfl,rfl,trivial⟩,⟨rfl,trivial⟩⟩,h⟩:∃x,waveportlaw07_refList_f0 p0 c w x∧I0 c x V∧J0 c x V<J0 c y U); exact⟨h.1,⟨(Ee0 _ _ _ h.2.1),fun x2 V1 h9 h10=>⟨fun h8=>⟨((h.2.2 x2 V1 h9 h10).1 h8).1,(match ((h.2.2 x2 V1 h9 h10).1 h8).2 with|⟨x3,h4,h5,h3⟩=>⟨x3,h4,h5,(CallV.mono h3 (fun _ _ _ ⟨r1,h2,h1⟩=>⟨r1,h2,⟨h1.1,⟨h1.2.1,(Bb0 _ _ _ _ _ h1.2.2)⟩⟩⟩))⟩)⟩,fun h8=>(fun b1 V3 h6 h7=>(((h.2.2 x2 V1 h9 h10).2 h8) b1 V3 h6 h7))⟩⟩⟩))
theorem waveportlaw07_refList_vc:type_of% (fun p0 V R I0 J0=>waveportlaw07_refList_v0 p0 V R I0 J0 (waveportlaw07_refList_sk.eq_1 ..)):=fun p0 V R I0 J0=>waveportlaw07_refList_v0 p0 V R I0 J0 (waveportlaw07_refList_sk.eq_1 ..)
end Go.Proofs.YtfdaofhjkdabbaaGreat
