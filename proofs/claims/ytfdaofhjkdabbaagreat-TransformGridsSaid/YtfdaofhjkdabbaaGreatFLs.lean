/- Part of the proof; it has the parts FLs. -/
import Derived.Test.YtfdaofhjkdabbaaGreatGTt
set_option maxRecDepth 100000
set_option maxHeartbeats 4000000
namespace Go.Proofs.YtfdaofhjkdabbaaGreat
open Go Go.Vc Go.Proofs
open Go.IntKind (i8 i16 i32 i64 u8 u16 u32 u64)
structure L_waveportlaw07_plain_0 where
 t11:Int
 o8:List Value
def waveportlaw07_plain_f0 (p0:Sl) (_c:Unit) (w x:L_waveportlaw07_plain_0):Prop:=(Q1 (.osl 8 0 (Int.toNat (p0.len:Int)) (Int.toNat (p0.len:Int)))∧Q1 (.val (p0.v))∧Q1 (.val (.int .i64 (p0.len:Int)))∧E2 (.val (.int .i64 w.t11)) (.val (.int .i64 x.t11))∧True)∧(O2 ⟨100,.dyn w.o8⟩ ⟨100,.dyn x.o8⟩∧True)
def waveportlaw07_plain_sk (p0:Sl) (V:View) (R:Value→View→Prop) (I0:Unit→L_waveportlaw07_plain_0→View→Prop) (E0:Unit→L_waveportlaw07_plain_0→View→Prop) (B0:Unit→L_waveportlaw07_plain_0→View→L_waveportlaw07_plain_0→View→Prop):Prop :=
 ((0:Int)≤(p0.len:Int)∧((p0.len:Int):Int)≤(p0.len:Int)∧(24:Int)*(p0.len:Int)≤281474976710656∧((p0.len:Int):Int)≤9223372036854775807) ∧
 E0 () (L_waveportlaw07_plain_0.mk 0 ((List.replicate (Int.toNat (p0.len:Int)) [Value.int .i64 0,Value.int .i64 0,Value.int .i64 0]).flatten)) V ∧
 (∀(x2:L_waveportlaw07_plain_0) (V1:View),View.le V V1→I0 () x2 V1 →
 ((decide ((x2.t11:Int)<(p0.len:Int)))=true →
 ((0:Int)≤x2.t11∧(x2.t11:Int)<(p0.len:Nat)∧Option.isSome p0.a=true) ∧
 ∃x3:RatV,View.has V1 (Option.map (fun q=>Addr.add q (Int.toNat x2.t11*3)) p0.a) (x3.val).cells.toList∧Option.isSome (Option.map (fun q=>Addr.add q (Int.toNat x2.t11*3)) p0.a)=true ∧
 CallV Tryz.prog 112 #[x3.val] V1 fun v V2=>∃r1:RatV,v=r1.val ∧
 ((0:Int)≤x2.t11∧(x2.t11:Int)<(Int.toNat (p0.len:Int):Nat)) ∧
 0+Int.toNat x2.t11*3+3≤List.length x2.o8 ∧
 B0 () (L_waveportlaw07_plain_0.mk (i64.wrap (x2.t11+1)) (setL x2.o8 (0+Int.toNat x2.t11*3) [.int .i64 r1.re,.int .i64 r1.im,.int .i64 r1.den])) V2 x2 V1) ∧
 ((decide ((x2.t11:Int)<(p0.len:Int)))=false →
 ∀(b1:Nat) (V3:View),View.le V1 V3→V3 b1=some (List.toArray x2.o8) →
 R ((Sl.mk (some (Addr.mk b1 0 none)) (Int.toNat (p0.len:Int)) (Int.toNat (p0.len:Int))).v) V3))
theorem waveportlaw07_plain_v0 (p0:Sl) (V:View) (R:Value→View→Prop) (I0:Unit→L_waveportlaw07_plain_0→View→Prop) (J0:Unit→L_waveportlaw07_plain_0→View→Nat) {X:Prop} (e:waveportlaw07_plain_sk p0 V R I0 I0 (fun c w V x U=>I0 c w V∧J0 c w V<J0 c x U)=X) (h:X) :
 CallV Tryz.prog 21 #[p0.v] V R :=
 calls_of_vc (Shp:=Shp) hmixed Tryz.func21 (c:=Tryz.f21.body.getD .skip) (args:=[p0.v]) (by kernel_rfl)
 (.seq (.reg [A 2 2]) (.seq (.reg [A 6 2,A 7 0,A 8 3,A 3 2]) (.seq (.seq (.reg [A 9 2,A 10 0,A 11 2]) (.block (.loop Unit L_waveportlaw07_plain_0 (fun _=>()) (fun c x=>{ tm:=spT 23 0 [(3,.osl 8 0 (Int.toNat (p0.len:Int)) (Int.toNat (p0.len:Int))),(9,.val (p0.v)),(10,.val (.int .i64 (p0.len:Int))),(11,.val (.int .i64 x.t11))],own:=spO 23 0 [(8,⟨100,.dyn x.o8⟩)] }) I0 J0 (.seq (.reg [A 12 0]) (.seq (.cond .leaf .leaf) (.seq (.block (.seq (.reg [A 13 2,A 14 7,A 15 5,A 5 3,A 4 2,A 5 6]) (.reg [A 16 2,A 17 2,A 5 4,A 19 10,A 20 7,A 8 6]))) (.reg [A 21 0,A 11 2]))))))) (.seq (.reg [A 22 2,A 2 2]) (.pub 8 .leaf)))))
 (Eq.mpr (by kernel_rfl) (show waveportlaw07_plain_sk p0 V R I0 (fun c w V=>∃x,waveportlaw07_plain_f0 p0 c w x∧I0 c x V) (fun c w V y U=>∃x,waveportlaw07_plain_f0 p0 c w x∧I0 c x V∧J0 c x V<J0 c y U)from by
 have h:=Eq.mpr e h; unfold waveportlaw07_plain_sk at h ⊢; have Ee0:=fun c w V (h:I0 c w V)=>(⟨w,⟨⟨rfl,rfl,rfl,rfl,trivial⟩,⟨rfl,trivial⟩⟩,h⟩:∃x,waveportlaw07_plain_f0 p0 c w x∧I0 c x V); have Bb0:=fun c w V y U (h:I0 c w V∧J0 c w V<J0 c y U)=>(⟨w,⟨⟨rfl,rfl,rfl,rfl,trivial⟩,⟨rfl,trivial⟩⟩,h⟩:∃x,waveportlaw07_plain_f0 p0 c w x∧I0 c x V∧J0 c x V<J0 c y U); exact⟨h.1,⟨(Ee0 _ _ _ h.2.1),fun x2 V1 h9 h10=>⟨fun h8=>⟨((h.2.2 x2 V1 h9 h10).1 h8).1,(match ((h.2.2 x2 V1 h9 h10).1 h8).2 with|⟨x3,h4,h5,h3⟩=>⟨x3,h4,h5,(CallV.mono h3 (fun _ _ _ ⟨r1,h2,h1⟩=>⟨r1,h2,⟨h1.1,⟨h1.2.1,(Bb0 _ _ _ _ _ h1.2.2)⟩⟩⟩))⟩)⟩,fun h8=>(fun b1 V3 h6 h7=>(((h.2.2 x2 V1 h9 h10).2 h8) b1 V3 h6 h7))⟩⟩⟩))
theorem waveportlaw07_plain_vc:type_of% (fun p0 V R I0 J0=>waveportlaw07_plain_v0 p0 V R I0 J0 (waveportlaw07_plain_sk.eq_1 ..)):=fun p0 V R I0 J0=>waveportlaw07_plain_v0 p0 V R I0 J0 (waveportlaw07_plain_sk.eq_1 ..)
end Go.Proofs.YtfdaofhjkdabbaaGreat
