/- Part. -/
import Derived.Test.YtfdaofhjkdabbaaGreatFNat3
set_option maxRecDepth 100000
set_option maxHeartbeats 4000000
namespace Go.Proofs.YtfdaofhjkdabbaaGreat
open Go Go.Vc Go.Proofs
open Go.Proofs.Tryz (prog)
open Go.IntKind (i8 i16 i32 i64 u8 u16 u32 u64)
structure b05 where
 t0:Sl
 t1:Sl
def y0d  (_c:Unit) (w x:b05):Prop:=(E2 (.val (w.t0.v)) (.val (x.t0.v))∧E2 (.val (w.t1.v)) (.val (x.t1.v))∧True)∧(True)
def d0b (p0:Sl) (p1:Sl) (V:View) (R:RT) (I0:IT Unit b05) (E0:IT Unit b05) (B0:BT Unit b05):Prop:=E0 () (b05.mk p0 p1) V∧(∀(x2:b05) (V1:View),View.le V V1→I0 () x2 V1→((decide (((x2.t1.len:Int):Int)>0))=true→a00 prog 353 #[x2.t0.v,x2.t1.v] V1 fun v V2=>∃(r1:Sl) (r2:Sl),v = .tuple #[r1.v,r2.v]∧B0 () (b05.mk x2.t1 r2) V2 x2 V1)∧((decide (((x2.t1.len:Int):Int)>0))=false→R (x2.t0.v) V1))
theorem e0k (p0:Sl) (p1:Sl) (V:View) (R:RT) (I0:IT Unit b05) (J0:JT Unit b05) {X:Prop} (e:d0b p0 p1 V R I0 I0 (fun c w V x U=>I0 c w V∧J0 c w V<J0 c x U)=X) (h:X):a00 prog 351 #[p0.v,p1.v] V R :=
 cv9 [p0.v,p1.v] Tryz.func351 (by kernel_rfl) (.seq (rG [130]) (.seq (.block (.loop Unit b05 (fun _=>()) (fun c x=>{ tm:=spT 19 0 [(0,.val (x.t0.v)),(1,.val (x.t1.v))],own:=spO 19 0 [] }) I0 J0 (.seq (.seq (rG [226,256,288]) (.cond .leaf .leaf)) (.block (.seq (rG [354,386,426,322,448,480,162,194]) (rG [514,546,2,34])))))) (.seq (rG [578,130]) .leaf))) (Eq.mpr (by kernel_rfl) (show d0b p0 p1 V R I0 (fun c w V=>∃x,y0d  c w x∧I0 c x V) (fun c w V y U=>∃x,y0d  c w x∧I0 c x V∧J0 c x V<J0 c y U)from by
 have h:=Eq.mpr e h; unfold d0b at h ⊢; revert h; repeat' first|with_reducible exact id|refine And.imp ?_ ?_|refine forall_imp fun _ => ?_|refine Exists.imp fun _ => ?_|refine cvI fun _ _ => ?_|exact fun h=>⟨_,by(repeat' apply And.intro)<;>first|rfl|trivial,h⟩))
theorem w0r:type_of% (fun p0 p1 V R I0 J0=>e0k p0 p1 V R I0 J0 (d0b.eq_1 ..)):=fun p0 p1 V R I0 J0=>e0k p0 p1 V R I0 J0 (d0b.eq_1 ..)
