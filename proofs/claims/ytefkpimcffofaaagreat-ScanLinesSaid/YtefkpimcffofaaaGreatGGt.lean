/- Part. -/
import Derived.Test.YtefkpimcffofaaaGreatGRb3
set_option maxRecDepth 100000
set_option maxHeartbeats 4000000
namespace Go.Proofs.YtefkpimcffofaaaGreat
open Go Go.Vc Go.Proofs
open Go.Proofs.Tryz (prog)
open Go.IntKind (i8 i16 i32 i64 u8 u16 u32 u64)
theorem e0i (p0 : WhV) (p1 : WhV) (V : View) (R : RT)  (h : ((!(p0.neg == p1.neg)) = true → (p0.neg = true → R (.int .i64 (-1)) V) ∧ (p0.neg = false → R (.int .i64 1) V)) ∧ ((!(p0.neg == p1.neg)) = false → (p0.neg = true → a00 prog 276 #[p1.mag.v, p0.mag.v] V fun v V1 => ∃ r1 : Int, v = .int .i64 r1 ∧ R (.int .i64 r1) V1) ∧ (p0.neg = false → a00 prog 276 #[p0.mag.v, p1.mag.v] V fun v V2 => ∃ r2 : Int, v = .int .i64 r2 ∧ R (.int .i64 r2) V2))) : a00 prog 275 #[p0.val, p1.val] V R :=
 cv9 [p0.val, p1.val] Tryz.func275 (by kernel_rfl) (.seq (rG [67,99,130]) (.seq (.seq (rG [167,68,231,100,288]) (.cond (.seq (.seq (rG [327,68]) (.cond (.seq (rG [130]) .leaf) .leaf)) (.seq (rG [130]) .leaf)) .leaf)) (.seq (.seq (rG [391,68]) (.cond (.seq (rG [455,100,519,68,586,130]) .leaf) .leaf)) (.seq (rG [615,68,679,100,746,130]) .leaf)))) (Eq.mpr (by kernel_rfl) h)
theorem E0l (p0 : NumV) (p1 : NumV) (V : View) (R : RT)  (h : a00 prog 275 #[p0.re.val, p1.re.val] V fun v V1 => ∃ r1 : Int, v = .int .i64 r1 ∧ (((r1 : Int) == 0) = true → a00 prog 275 #[p0.im.val, p1.im.val] V1 fun v V2 => ∃ r2 : Int, v = .int .i64 r2 ∧ (((r2 : Int) == 0) = true → a00 prog 276 #[p0.under.v, p1.under.v] V2 fun v V3 => ∃ r3 : Int, v = .int .i64 r3 ∧ R (.bool ((r3 : Int) == 0)) V3) ∧ (((r2 : Int) == 0) = false → R (.bool false) V2)) ∧ (((r1 : Int) == 0) = false → R (.bool false) V1)) : a00 prog 175 #[p0.val, p1.val] V R :=
 cv9 [p0.val, p1.val] Tryz.func175 (by kernel_rfl) (.seq (rG [67,99,137]) (.seq (.reg [A 5 7, A 2 4, A 7 7, A 3 4, A 9 10, A 10 0, ⟨11, 2, true⟩, A 12 7, A 2 4, A 14 7, A 3 4, A 16 10, A 17 0, A 18 20, ⟨19, 2, true⟩, A 20 7, A 2 4, A 22 7, A 3 4, A 24 10, A 25 0, A 26 20, A 4 2]) .leaf)) (Eq.mpr (by kernel_rfl) h)
