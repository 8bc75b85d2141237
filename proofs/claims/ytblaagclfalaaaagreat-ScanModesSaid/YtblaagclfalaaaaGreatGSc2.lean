/- Part. -/
import Derived.Test.YtblaagclfalaaaaGreatGSc1
set_option maxRecDepth 100000
set_option maxHeartbeats 4000000
namespace Go.Proofs.YtblaagclfalaaaaGreat
open Go Go.Vc Go.Proofs
open Go.Proofs.Tryz (prog)
open Go.IntKind (i8 i16 i32 i64 u8 u16 u32 u64)
theorem q0l(p0:o05)(V:View)(R:RT) (h:a00 prog 143 #[p0.val] V λv V1=>∃r1:Bool,v = .bool r1/\((!r1)=true->R (.tuple #[(NumV.mk (WhV.mk false (Sl.mk none 0 0)) (WhV.mk false (Sl.mk none 0 0)) (Sl.mk none 0 0)).val,.int .i64 1]) V1)/\((!r1)=false->a00 prog 148 #[p0.u.val,p0.v.val] V1 λv V2=>∃r2:NumV,v=r2.val/\R (.tuple #[r2.val,.int .i64 0]) V2)):a00 prog 131 #[p0.val] V R :=
 cv9 [p0.val] Tryz.func131 (by kernel_rfl) (.seq (rG [35,67,98]) (.seq (.seq (rG [36,170,212]) (.cond (.seq (rG [224,70,98]) .leaf) .leaf)) (.seq (rG [263,36,327,36,394,70,98]) .leaf))) (Eq.mpr (by kernel_rfl) h)
