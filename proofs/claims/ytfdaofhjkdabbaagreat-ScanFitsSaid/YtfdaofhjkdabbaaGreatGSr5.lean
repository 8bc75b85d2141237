/- Part. -/
import Derived.Test.YtfdaofhjkdabbaaGreatGSr4
set_option maxRecDepth 100000
set_option maxHeartbeats 4000000
namespace Go.Proofs.YtfdaofhjkdabbaaGreat
open Go Go.Vc Go.Proofs
open Go.Proofs.Tryz (prog)
open Go.IntKind (i8 i16 i32 i64 u8 u16 u32 u64)
theorem c0i (p0:Sl) (V:View) (R:RT)  (h:((((p0.len:Int):Int)==0)=true→R (.int .i64 0) V)∧((((p0.len:Int):Int)==0)=false→((0:Int)≤0∧(0:Int)<(p0.len:Nat)∧Option.isSome p0.a=true)∧∃x1:Sl,View.load V (Option.map (fun q=>Addr.add q (Int.toNat 0*1)) p0.a)=some (x1.v)∧R (.int .i64 (x1.len:Int)) V)):a00 prog 390 #[p0.v] V R :=
 cv9 [p0.v] Tryz.func390 (by kernel_rfl) (.seq (rG [66]) (.seq (.seq (rG [98,128,160]) (.cond (.seq (rG [66]) .leaf) .leaf)) (.seq (rG [194,231,261,288,66]) .leaf))) (Eq.mpr (by kernel_rfl) h)
structure m03 where
 t3:Int
def w09 (p0:Sl) (_c:Unit) (w x:m03):Prop:=(Q1 (.val (p0.v))∧E2 (.val (.int .i64 w.t3)) (.val (.int .i64 x.t3))∧True)∧(True)
def I07 (p0:Sl) (V:View) (R:RT) (I0:IT Unit m03) (E0:IT Unit m03) (B0:BT Unit m03):Prop:=((decide (((p0.len:Int):Int)>32))=true→R (.bool false) V)∧((decide (((p0.len:Int):Int)>32))=false→E0 () (m03.mk 0) V∧(∀(x2:m03) (V1:View),View.le V V1→I0 () x2 V1→((decide ((x2.t3:Int)<(p0.len:Int)))=true→((0:Int)≤x2.t3∧(x2.t3:Int)<(p0.len:Nat)∧Option.isSome p0.a=true)∧∃x3:Sl,View.load V1 (Option.map (fun q=>Addr.add q (Int.toNat x2.t3*1)) p0.a)=some (x3.v)∧((0:Int)≤0∧(0:Int)<(p0.len:Nat)∧Option.isSome p0.a=true)∧∃x4:Sl,View.load V1 (Option.map (fun q=>Addr.add q (Int.toNat 0*1)) p0.a)=some (x4.v)∧((((x3.len:Int):Int) != (x4.len:Int))=true→R (.bool false) V1)∧((((x3.len:Int):Int) != (x4.len:Int))=false→((0:Int)≤x2.t3∧(x2.t3:Int)<(p0.len:Nat)∧Option.isSome p0.a=true)∧∃x5:Sl,View.load V1 (Option.map (fun q=>Addr.add q (Int.toNat x2.t3*1)) p0.a)=some (x5.v)∧((decide (((x5.len:Int):Int)>32))=true→R (.bool false) V1)∧((decide (((x5.len:Int):Int)>32))=false→B0 () (m03.mk (i64.wrap (x2.t3+1))) V1 x2 V1)))∧((decide ((x2.t3:Int)<(p0.len:Int)))=false→R (.bool true) V1)))
theorem f0f (p0:Sl) (V:View) (R:RT) (I0:IT Unit m03) (J0:JT Unit m03) {X:Prop} (e:I07 p0 V R I0 I0 (fun c w V x U=>I0 c w V∧J0 c w V<J0 c x U)=X) (h:X):a00 prog 389 #[p0.v] V R :=
 cv9 [p0.v] Tryz.func389 (by kernel_rfl) (.seq (rG [73]) (.seq (.seq (rG [130,160,192]) (.cond (.seq (rG [73]) .leaf) .leaf)) (.seq (.seq (rG [98]) (.block (.loop Unit m03 (fun _=>()) (fun c x=>{ tm:=spT 31 0 [(0,.val (p0.v)),(3,.val (.int .i64 x.t3))],own:=spO 31 0 [] }) I0 J0 (.seq (.seq (rG [226,258,288,320]) (.cond .leaf .leaf)) (.seq (.block (.seq (.draw [(0,A 13 2),(1,A 14 2),(2,A 15 7),(3,A 16 5),(4,A 17 0),(5,A 18 2),(6,A 19 7),(7,A 20 5),(8,A 21 0),(9,A 22 0),(10,⟨23,2,true⟩),(11,A 24 2),(12,A 25 2),(13,A 26 7),(14,A 27 5),(15,A 28 0),(16,A 29 0),(17,A 30 20)] [0,0,3,7,15,0,32,96,224,511,1023,2047,2047,8191,16383,32767,65535,131071]) (.cond (.seq (rG [73]) .leaf) .leaf))) (rG [354,384,98])))))) (.seq (rG [73]) .leaf)))) (Eq.mpr (by kernel_rfl) (show I07 p0 V R I0 (fun c w V=>∃x,w09 p0 c w x∧I0 c x V) (fun c w V y U=>∃x,w09 p0 c w x∧I0 c x V∧J0 c x V<J0 c y U)from by
 have h:=Eq.mpr e h; unfold I07 at h ⊢; revert h; repeat' first|with_reducible exact id|refine And.imp ?_ ?_|refine forall_imp fun _ => ?_|refine Exists.imp fun _ => ?_|refine cvI fun _ _ => ?_|exact fun h=>⟨_,by(repeat' apply And.intro)<;>first|rfl|trivial,h⟩))
theorem l0l:type_of% (fun p0 V R I0 J0=>f0f p0 V R I0 J0 (I07.eq_1 ..)):=fun p0 V R I0 J0=>f0f p0 V R I0 J0 (I07.eq_1 ..)
