/- Part of the proof; it has the parts GBx4. -/
import Derived.Test.YtkibfmnkkiakoaaGreatGRb3
set_option maxRecDepth 100000
set_option maxHeartbeats 4000000
namespace Go.Proofs.YtkibfmnkkiakoaaGreat
open Go Go.Vc Go.Proofs
open Go.IntKind (i8 i16 i32 i64 u8 u16 u32 u64)

theorem Span_Add_vc (p0 : SpV) (p1 : SpV) (V : View) (R : Value → View → Prop) 
 (h :
 CallV Tryz.prog 99 #[p0.val] V fun v V1 => ∃ r1 : SetV, v = r1.val ∧
 CallV Tryz.prog 99 #[p1.val] V1 fun v V2 => ∃ r2 : SetV, v = r2.val ∧
 CallV Tryz.prog 121 #[r1.val, r2.val] V2 fun v V3 => ∃ r3 : SetV, v = r3.val ∧
 CallV Tryz.prog 101 #[r3.val] V3 fun v V4 => ∃ r4 : SpV, v = r4.val ∧
 R (r4.val) V4) :
 CallV Tryz.prog 69 #[p0.val, p1.val] V R :=
 calls_of_vc (Shp := Shp) hmixed Tryz.func69 (c := Tryz.f69.body.getD .skip) (args := [p0.val, p1.val]) (by kernel_rfl)
 (.seq (.reg [A 2 3, A 3 3, A 4 3]) (.seq (.draw [(0, A 2 4), (2, A 3 4), (1, A 6 10), (3, A 8 10), (4, A 9 10), (5, A 10 10), (6, A 4 6)] [0, 1, 0, 7, 15, 31, 63]) .leaf))
 (Eq.mpr (by kernel_rfl) h)

theorem Span_Sub_vc (p0 : SpV) (p1 : SpV) (V : View) (R : Value → View → Prop) 
 (h :
 CallV Tryz.prog 99 #[p0.val] V fun v V1 => ∃ r1 : SetV, v = r1.val ∧
 CallV Tryz.prog 99 #[p1.val] V1 fun v V2 => ∃ r2 : SetV, v = r2.val ∧
 CallV Tryz.prog 102 #[r2.val] V2 fun v V3 => ∃ r3 : SetV, v = r3.val ∧
 CallV Tryz.prog 121 #[r1.val, r3.val] V3 fun v V4 => ∃ r4 : SetV, v = r4.val ∧
 CallV Tryz.prog 101 #[r4.val] V4 fun v V5 => ∃ r5 : SpV, v = r5.val ∧
 R (r5.val) V5) :
 CallV Tryz.prog 71 #[p0.val, p1.val] V R :=
 calls_of_vc (Shp := Shp) hmixed Tryz.func71 (c := Tryz.f71.body.getD .skip) (args := [p0.val, p1.val]) (by kernel_rfl)
 (.seq (.reg [A 2 3, A 3 3, A 4 3]) (.seq (.draw [(0, A 2 4), (2, A 3 4), (1, A 6 10), (3, A 8 10), (4, A 9 10), (5, A 10 10), (6, A 11 10), (7, A 4 6)] [0, 1, 0, 7, 15, 31, 63, 127]) .leaf))
 (Eq.mpr (by kernel_rfl) h)

theorem Box_Add_vc (p0 : BoxV) (p1 : BoxV) (V : View) (R : Value → View → Prop) 
 (h :
 CallV Tryz.prog 69 #[p0.re.val, p1.re.val] V fun v V1 => ∃ r1 : SpV, v = r1.val ∧
 CallV Tryz.prog 69 #[p0.im.val, p1.im.val] V1 fun v V2 => ∃ r2 : SpV, v = r2.val ∧
 R ((BoxV.mk r1 r2).val) V2) :
 CallV Tryz.prog 18 #[p0.val, p1.val] V R :=
 calls_of_vc (Shp := Shp) hmixed Tryz.func18 (c := Tryz.f18.body.getD .skip) (args := [p0.val, p1.val]) (by kernel_rfl)
 (.seq (.reg [A 2 3, A 3 3, A 4 3]) (.seq (.draw [(0, A 5 7), (1, A 2 4), (2, A 7 7), (3, A 3 4), (5, A 10 7), (6, A 2 4), (7, A 12 7), (8, A 3 4), (4, A 9 10), (9, A 14 10), (10, A 15 0), (11, A 4 6)] [0, 1, 0, 4, 15, 0, 32, 0, 128, 511, 1023, 2047]) .leaf))
 (Eq.mpr (by kernel_rfl) h)

theorem Box_Sub_vc (p0 : BoxV) (p1 : BoxV) (V : View) (R : Value → View → Prop) 
 (h :
 CallV Tryz.prog 71 #[p0.re.val, p1.re.val] V fun v V1 => ∃ r1 : SpV, v = r1.val ∧
 CallV Tryz.prog 71 #[p0.im.val, p1.im.val] V1 fun v V2 => ∃ r2 : SpV, v = r2.val ∧
 R ((BoxV.mk r1 r2).val) V2) :
 CallV Tryz.prog 20 #[p0.val, p1.val] V R :=
 calls_of_vc (Shp := Shp) hmixed Tryz.func20 (c := Tryz.f20.body.getD .skip) (args := [p0.val, p1.val]) (by kernel_rfl)
 (.seq (.reg [A 2 3, A 3 3, A 4 3]) (.seq (.draw [(0, A 5 7), (1, A 2 4), (2, A 7 7), (3, A 3 4), (5, A 10 7), (6, A 2 4), (7, A 12 7), (8, A 3 4), (4, A 9 10), (9, A 14 10), (10, A 15 0), (11, A 4 6)] [0, 1, 0, 4, 15, 0, 32, 0, 128, 511, 1023, 2047]) .leaf))
 (Eq.mpr (by kernel_rfl) h)

end Go.Proofs.YtkibfmnkkiakoaaGreat
