/- Part. -/
import Derived.Test.YtefkpimcffofaaaGreatGRb4
set_option maxRecDepth 100000
set_option maxHeartbeats 4000000
namespace Go.Proofs.YtefkpimcffofaaaGreat
open Go Go.Vc Go.Proofs
open Go.Proofs.Tryz (prog)
open Go.IntKind (i8 i16 i32 i64 u8 u16 u32 u64)
theorem u0o (p0 : NumV) (V : View) (R : Value → View → Prop)  (h : a00 prog 279 #[p0.im.val, (WhV.mk false (Sl.mk none 0 0)).val, p0.under.v] V fun v V1 => ∃ r1 : NumV, v = r1.val ∧ R (r1.val) V1) : a00 prog 253 #[p0.val] V R :=
 cv9 [p0.val] Tryz.func253 (by kernel_rfl) (.seq (.reg [A 1 3, A 2 3]) (.seq (.reg [A 3 7, A 1 4, A 5 0, A 6 7, A 1 4, A 8 10, A 2 6]) .leaf)) (Eq.mpr (by kernel_rfl) h)
theorem O0l (p0 : NumV) (p1 : NumV) (V : View) (R : Value → View → Prop)  (h : a00 prog 207 #[p0.val, p1.val] V fun v V1 => ∃ r1 : NumV, v = r1.val ∧ a00 prog 277 #[r1.val] V1 fun v V2 => ∃ r2 : Int, v = .int .i64 r2 ∧ (((r2 : Int) != 0) = true → R (.int .i64 r2) V2) ∧ (((r2 : Int) != 0) = false → a00 prog 253 #[r1.val] V2 fun v V3 => ∃ r3 : NumV, v = r3.val ∧ a00 prog 277 #[r3.val] V3 fun v V4 => ∃ r4 : Int, v = .int .i64 r4 ∧ R (.int .i64 r4) V4)) : a00 prog 176 #[p0.val, p1.val] V R :=
 cv9 [p0.val, p1.val] Tryz.func176 (by kernel_rfl) (.seq (.reg [A 2 3, A 3 3, A 4 2]) (.seq (.reg [A 2 4, A 3 4, A 9 10, A 5 3, A 5 6]) (.seq (.seq (.reg [A 5 4, A 11 10, A 6 2]) (.seq (.reg [A 12 2, A 13 0]) (.cond (.seq (.reg [A 14 2, A 4 2]) .leaf) .leaf))) (.seq (.reg [A 5 4, A 16 10, A 17 10, A 4 2]) .leaf)))) (Eq.mpr (by kernel_rfl) h)
