/- Part of the proof; it has the parts GBx5. -/
import Derived.Test.YtkibfmnkkiakoaaGreatGRb4
set_option maxRecDepth 100000
set_option maxHeartbeats 4000000
namespace Go.Proofs.YtkibfmnkkiakoaaGreat
open Go Go.Vc Go.Proofs
open Go.IntKind (i8 i16 i32 i64 u8 u16 u32 u64)

theorem Box_Div_vc (p0 : BoxV) (p1 : BoxV) (V : View) (R : Value → View → Prop) 
 (h :
 CallV Tryz.prog 26 #[p1.val] V fun v V1 => ∃ (r1 : BoxV) (r2 : Int), v = .tuple #[r1.val, .int .i64 r2] ∧
 (((r2 : Int) != 0) = true →
 R (.tuple #[(BoxV.mk (SpV.mk 0 0) (SpV.mk 0 0)).val, .int .i64 r2]) V1) ∧
 (((r2 : Int) != 0) = false →
 CallV Tryz.prog 41 #[p0.val, r1.val] V1 fun v V2 => ∃ r3 : BoxV, v = r3.val ∧
 R (.tuple #[r3.val, .int .i64 0]) V2)) :
 CallV Tryz.prog 28 #[p0.val, p1.val] V R :=
 calls_of_vc (Shp := Shp) hmixed Tryz.func28 (c := Tryz.f28.body.getD .skip) (args := [p0.val, p1.val]) (by kernel_rfl)
 (.seq (.reg [A 2 3, A 3 3, A 4 3, A 5 2]) (.seq (.reg [A 3 4, A 10 10, A 8 2, A 11 0, A 12 0, A 6 3, A 6 6, A 7 2]) (.seq (.seq (.reg [A 13 2, A 14 0]) (.cond (.seq (.reg [A 15 0, A 16 2, A 4 6, A 5 2]) .leaf) .leaf)) (.seq (.reg [A 2 4, A 6 4, A 19 10, A 4 6, A 5 2]) .leaf))))
 (Eq.mpr (by kernel_rfl) h)

theorem Box_Side_vc (p0 : BoxV) (V : View) (R : Value → View → Prop) 
 (h :
 ((FloatKind.f64.format.order p0.im.lo 0 == some .gt) = true →
 R (.int .i64 1) V) ∧
 ((FloatKind.f64.format.order p0.im.lo 0 == some .gt) = false →
 ((FloatKind.f64.format.order p0.im.hi 0 == some .lt) = true →
 R (.int .i64 (-1)) V) ∧
 ((FloatKind.f64.format.order p0.im.hi 0 == some .lt) = false →
 R (.int .i64 0) V))) :
 CallV Tryz.prog 32 #[p0.val] V R :=
 calls_of_vc (Shp := Shp) hmixed Tryz.func32 (c := Tryz.f32.body.getD .skip) (args := [p0.val]) (by kernel_rfl)
 (.seq (.reg [A 1 3, A 2 2]) (.seq (.block (.seq (.reg [A 4 7, A 5 7, A 1 4, A 7 0, A 3 2]) (.cond (.seq (.reg [A 2 2]) .leaf) (.seq (.reg [A 9 7, A 10 7, A 1 4, A 12 0, A 8 2]) (.cond (.seq (.reg [A 2 2]) .leaf) .leaf))))) (.seq (.reg [A 2 2]) .leaf)))
 (Eq.mpr (by kernel_rfl) h)

end Go.Proofs.YtkibfmnkkiakoaaGreat
