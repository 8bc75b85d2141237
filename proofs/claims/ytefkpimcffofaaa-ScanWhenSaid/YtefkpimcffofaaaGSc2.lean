/- Part of the proof; it has the parts GSc2. -/
import Derived.Test.YtefkpimcffofaaaGSc1
set_option maxRecDepth 100000
set_option maxHeartbeats 4000000
namespace Go.Proofs.Ytefkpimcffofaaa
open Go Go.Vc Go.Proofs
open Go.IntKind (i8 i16 i32 i64 u8 u16 u32 u64)

theorem scan_Skew_vc (p0 : FrameV) (V : View) (R : Value → View → Prop) 
 (h :
 CallV Try.prog 91 #[p0.val] V fun v V1 => ∃ r1 : Bool, v = .bool r1 ∧
 ((!r1) = true →
 R (.tuple #[(NumV.mk (WhV.mk false (Sl.mk none 0 0)) (WhV.mk false (Sl.mk none 0 0)) (Sl.mk none 0 0)).val, .int .i64 1]) V1) ∧
 ((!r1) = false →
 CallV Try.prog 92 #[p0.u.val, p0.v.val] V1 fun v V2 => ∃ r2 : NumV, v = r2.val ∧
 R (.tuple #[r2.val, .int .i64 0]) V2)) :
 CallV Try.prog 57 #[p0.val] V R :=
 calls_of_vc (Shp := Shp) hmixed Try.func57 (c := Try.f57.body.getD .skip) (args := [p0.val]) (by kernel_rfl)
 (.seq (.reg [A 1 3, A 2 3, A 3 2]) (.seq (.seq (.reg [A 1 4, A 5 10, A 6 20]) (.cond (.seq (.reg [A 7 0, A 2 6, A 3 2]) .leaf) .leaf)) (.seq (.reg [A 8 7, A 1 4, A 10 7, A 1 4, A 12 10, A 2 6, A 3 2]) .leaf)))
 (Eq.mpr (by kernel_rfl) h)

end Go.Proofs.Ytefkpimcffofaaa
