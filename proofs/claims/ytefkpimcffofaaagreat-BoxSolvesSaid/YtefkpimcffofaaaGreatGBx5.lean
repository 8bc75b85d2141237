/- Part. -/
import Derived.Test.YtefkpimcffofaaaGreatGMsN
set_option maxRecDepth 100000
set_option maxHeartbeats 4000000
namespace Go.Proofs.YtefkpimcffofaaaGreat
open Go Go.Vc Go.Proofs
open Go.Proofs.Tryz (prog)
open Go.IntKind (i8 i16 i32 i64 u8 u16 u32 u64)
theorem w0p (p0 : BoxV) (p1 : BoxV) (V : View) (R : Value → View → Prop)  (h : a00 prog 100 #[p1.val] V fun v V1 => ∃ (r1 : BoxV) (r2 : Int), v = .tuple #[r1.val, .int .i64 r2] ∧ (((r2 : Int) != 0) = true → R (.tuple #[(BoxV.mk (SpV.mk 0 0) (SpV.mk 0 0)).val, .int .i64 r2]) V1) ∧ (((r2 : Int) != 0) = false → a00 prog 101 #[p0.val, r1.val] V1 fun v V2 => ∃ r3 : BoxV, v = r3.val ∧ R (.tuple #[r3.val, .int .i64 0]) V2)) : a00 prog 409 #[p0.val, p1.val] V R :=
 cv9 [p0.val, p1.val] Tryz.func409 (by kernel_rfl) (.seq (.reg [A 2 3, A 3 3, A 4 3, A 5 2]) (.seq (.reg [A 3 4, A 10 10, A 8 2, A 11 0, A 12 0, A 6 3, A 6 6, A 7 2]) (.seq (.seq (.reg [A 13 2, A 14 0]) (.cond (.seq (.reg [A 15 0, A 16 2, A 4 6, A 5 2]) .leaf) .leaf)) (.seq (.reg [A 2 4, A 6 4, A 19 10, A 4 6, A 5 2]) .leaf)))) (Eq.mpr (by kernel_rfl) h)
