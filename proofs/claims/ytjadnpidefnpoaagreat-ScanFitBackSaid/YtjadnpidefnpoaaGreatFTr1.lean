/- Part. -/
import Derived.Test.YtjadnpidefnpoaaGreatFNum1
set_option maxRecDepth 100000
set_option maxHeartbeats 4000000
namespace Go.Proofs.YtjadnpidefnpoaaGreat
open Go Go.Vc Go.Proofs
open Go.Proofs.Tryz (prog)
open Go.IntKind (i8 i16 i32 i64 u8 u16 u32 u64)
theorem A0n(p0:RatV)(V:View)(R:RT) (h:(((p0.den:Int)==0)=true->a00 prog 104 #[.int .i64 p0.re,.int .i64 p0.im,.int .i64 1] V λv V1=>∃(r1:NumV) (r2:Int),v = .tuple #[r1.val,.int .i64 r2]/\R (r1.val) V1)/\(((p0.den:Int)==0)=false->a00 prog 104 #[.int .i64 p0.re,.int .i64 p0.im,.int .i64 p0.den] V λv V2=>∃(r3:NumV) (r4:Int),v = .tuple #[r3.val,.int .i64 r4]/\R (r3.val) V2)):a00 prog 15 #[p0.val] V R :=
 cv9 [p0.val] Tryz.func15 (by kernel_rfl) (.seq (rG [35,67]) (.seq (.seq (rG [167,36,224]) (.cond (rG [263,38]) .leaf)) (.seq (rG [327,36,391,36,455,36,522,290,544,576,99,102,130]) (.seq (rG [100,70]) .leaf)))) (Eq.mpr (by kernel_rfl) h)
