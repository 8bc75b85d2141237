/- Part. -/
import Derived.Test.YtjadnpidefnpoaaGreatFNat3
set_option maxRecDepth 100000
set_option maxHeartbeats 4000000
namespace Go.Proofs.YtjadnpidefnpoaaGreat
open Go Go.Vc Go.Proofs
open Go.Proofs.Tryz (prog)
open Go.IntKind (i8 i16 i32 i64 u8 u16 u32 u64)
structure M05 where(t0 t1:Sl)
def a0f (_c:Unit)(x:M05):St:={ tm:=spT 19 0 [(0,.val x.t0.v),(1,.val x.t1.v)],own:=spO 19 0 [] }
def F0c(p0:Sl)(p1:Sl)(V:View)(R:RT)(I0:IT Unit M05)(E0:IT Unit M05)(B0:BT Unit M05):Prop:=E0 () (M05.mk p0 p1) V/\(∀(x2:M05) (V1:View),View.le V V1->I0 () x2 V1->((decide (((x2.t1.len:Int):Int)>0))=true->a00 prog 263 #[x2.t0.v,x2.t1.v] V1 λv V2=>∃(r1:Sl) (r2:Sl),v = .tuple #[r1.v,r2.v]/\B0 () (M05.mk x2.t1 r2) V2 x2 V1)/\((decide (((x2.t1.len:Int):Int)>0))=false->R (x2.t0.v) V1))
theorem x0m(p0:Sl)(p1:Sl)(V:View)(R:RT)(I0:IT Unit M05)(J0:JT Unit M05){X:Prop}(e:F0c p0 p1 V R I0 I0 (λc w V x U=>I0 c w V/\J0 c w V<J0 c x U)=X)(h:X):a00 prog 261 #[p0.v,p1.v] V R :=
 cv9 [p0.v,p1.v] Tryz.func261 (by kernel_rfl) (.seq (rG [130]) (.seq (.block (.loop Unit M05 (λ_=>()) a0f I0 J0 (.seq (.seq (rG [226,256,288]) (.cond .leaf .leaf)) (.block (.seq (rG [354,386,426,322,448,480,162,194]) (rG [514,546,2,34])))))) (.seq (rG [578,130]) .leaf))) (Eq.mpr (by kernel_rfl) (show F0c p0 p1 V R I0 (eF a0f I0) (bF a0f I0 J0)from cvW (Eq.mpr e h)))
abbrev m0v:=λp0 p1 V R I0 J0=>x0m p0 p1 V R I0 J0 (F0c.eq_1 ..)
