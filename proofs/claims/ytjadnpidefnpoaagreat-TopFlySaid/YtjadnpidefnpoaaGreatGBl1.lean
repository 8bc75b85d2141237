/- Part. -/
import Derived.Test.YtjadnpidefnpoaaGreatGBx4
set_option maxRecDepth 100000
set_option maxHeartbeats 4000000
namespace Go.Proofs.YtjadnpidefnpoaaGreat
open Go Go.Vc Go.Proofs
open Go.Proofs.Tryz (prog)
open Go.IntKind (i8 i16 i32 i64 u8 u16 u32 u64)
theorem P0n(p0:SpV)(p1:SpV)(V:View)(R:RT) (h:((FloatKind.f64.format.order p0.hi p1.lo==some .lt)=true->R (.int .i64 1) V)/\((FloatKind.f64.format.order p0.hi p1.lo==some .lt)=false->(((FloatKind.f64.format.order p0.lo p1.hi==some .gt)||(FloatKind.f64.format.order p0.lo p1.hi==some .eq))=true->R (.int .i64 2) V)/\(((FloatKind.f64.format.order p0.lo p1.hi==some .gt)||(FloatKind.f64.format.order p0.lo p1.hi==some .eq))=false->R (.int .i64 0) V))):a00 prog 275 #[p0.val,p1.val] V R :=
 cv9 [p0.val,p1.val] Tryz.func275 (by kernel_rfl) (.seq (rG [67,99,130]) (.seq (.block (.seq (rG [199,68,263,100,320,162]) (.cond (.seq (rG [130]) .leaf) (.seq (rG [391,68,455,100,512,354]) (.cond (.seq (rG [130]) .leaf) .leaf))))) (.seq (rG [130]) .leaf))) (Eq.mpr (by kernel_rfl) h)
