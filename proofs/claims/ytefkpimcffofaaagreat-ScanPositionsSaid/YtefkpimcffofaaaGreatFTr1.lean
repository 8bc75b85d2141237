/- Part of the proof; it has the parts FTr1. -/
import Derived.Test.YtefkpimcffofaaaGreatFNum1
set_option maxRecDepth 100000
set_option maxHeartbeats 4000000
namespace Go.Proofs.YtefkpimcffofaaaGreat
open Go Go.Vc Go.Proofs
open Go.IntKind (i8 i16 i32 i64 u8 u16 u32 u64)

theorem law1_Of_vc (p0 : RatV) (V : View) (R : Value → View → Prop) 
 (h :
 (((p0.den : Int) == 0) = true →
 CallV Tryz.prog 105 #[.int .i64 p0.re, .int .i64 p0.im, .int .i64 1] V fun v V1 => ∃ (r1 : NumV) (r2 : Int), v = .tuple #[r1.val, .int .i64 r2] ∧
 R (r1.val) V1) ∧
 (((p0.den : Int) == 0) = false →
 CallV Tryz.prog 105 #[.int .i64 p0.re, .int .i64 p0.im, .int .i64 p0.den] V fun v V2 => ∃ (r3 : NumV) (r4 : Int), v = .tuple #[r3.val, .int .i64 r4] ∧
 R (r3.val) V2)) :
 CallV Tryz.prog 15 #[p0.val] V R :=
 calls_of_vc (Shp := Shp) hmixed Tryz.func15 (c := Tryz.f15.body.getD .skip) (args := [p0.val]) (by kernel_rfl)
 (.seq (.reg [A 1 3, A 2 3]) (.seq (.seq (.reg [A 5 7, A 1 4, A 7 0]) (.cond (.reg [A 8 7, A 1 6]) .leaf)) (.seq (.reg [A 10 7, A 1 4, A 12 7, A 1 4, A 14 7, A 1 4, A 16 10, A 9 2, A 17 0, A 18 0, A 3 3, A 3 6, A 4 2]) (.seq (.reg [A 3 4, A 2 6]) .leaf))))
 (Eq.mpr (by kernel_rfl) h)

end Go.Proofs.YtefkpimcffofaaaGreat
