/- Part. -/
import Derived.Test.YtefkpimcffofaaaGreatGFl3
set_option maxRecDepth 100000
set_option maxHeartbeats 4000000
namespace Go.Proofs.YtefkpimcffofaaaGreat
open Go Go.Vc Go.Proofs
open Go.Proofs.Tryz (prog)
open Go.IntKind (i8 i16 i32 i64 u8 u16 u32 u64)
theorem x0p (p0 : Sl) (V : View) (R : Value → View → Prop)  (h : ((((p0.len : Int) : Int) == 0) = true → R (.int .i64 0) V) ∧ ((((p0.len : Int) : Int) == 0) = false → ((0 : Int) ≤ (i64.wrap ((p0.len : Int) - 1)) ∧ ((i64.wrap ((p0.len : Int) - 1)) : Int) < (p0.len : Nat) ∧ Option.isSome p0.a = true) ∧ ∃ x1 : Int, View.load V (Option.map (fun q => Addr.add q (Int.toNat (i64.wrap ((p0.len : Int) - 1)) * 1)) p0.a) = some (.int .u32 x1) ∧ a00 prog 352 #[.int .u32 x1] V fun v V1 => ∃ r1 : Int, v = .int .i64 r1 ∧ R (.int .i64 (i64.wrap ((i64.wrap (32 * (i64.wrap ((p0.len : Int) - 1)))) + r1))) V1)) : a00 prog 374 #[p0.v] V R :=
 cv9 [p0.v] Tryz.func374 (by kernel_rfl) (.seq (.reg [A 2 2]) (.seq (.seq (.reg [A 3 2, A 4 0, A 5 0]) (.cond (.seq (.reg [A 2 2]) .leaf) .leaf)) (.seq (.reg [A 6 2, A 7 0, A 8 0, A 9 0, A 10 2, A 11 2, A 12 0, A 13 0, A 14 7, A 15 5, A 16 10, A 17 0, A 2 2]) .leaf))) (Eq.mpr (by kernel_rfl) h)
