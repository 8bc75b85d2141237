/- Part of the proof; it has the parts GRb3. -/
import Derived.Test.YtkibfmnkkiakoaaGreatFLen
set_option maxRecDepth 100000
set_option maxHeartbeats 4000000
namespace Go.Proofs.YtkibfmnkkiakoaaGreat
open Go Go.Vc Go.Proofs
open Go.IntKind (i8 i16 i32 i64 u8 u16 u32 u64)

theorem ref2_Box_Add_vc (p0 : BoxV) (p1 : BoxV) (V : View) (R : Value → View → Prop) 
 (h :
 CallV Tryz.prog 70 #[p0.re.val, p1.re.val] V fun v V1 => ∃ r1 : SpV, v = r1.val ∧
 CallV Tryz.prog 70 #[p0.im.val, p1.im.val] V1 fun v V2 => ∃ r2 : SpV, v = r2.val ∧
 R ((BoxV.mk r1 r2).val) V2) :
 CallV Tryz.prog 19 #[p0.val, p1.val] V R :=
 calls_of_vc (Shp := Shp) hmixed Tryz.func19 (c := Tryz.f19.body.getD .skip) (args := [p0.val, p1.val]) (by kernel_rfl)
 (.seq (.reg [A 2 3, A 3 3, A 4 3]) (.seq (.draw [(0, A 5 7), (1, A 2 4), (2, A 7 7), (3, A 3 4), (5, A 10 7), (6, A 2 4), (7, A 12 7), (8, A 3 4), (4, A 9 10), (9, A 14 10), (10, A 15 0), (11, A 4 6)] [0, 1, 0, 4, 15, 0, 32, 0, 128, 511, 1023, 2047]) .leaf))
 (Eq.mpr (by kernel_rfl) h)

theorem ref2_Box_Sub_vc (p0 : BoxV) (p1 : BoxV) (V : View) (R : Value → View → Prop) 
 (h :
 CallV Tryz.prog 72 #[p0.re.val, p1.re.val] V fun v V1 => ∃ r1 : SpV, v = r1.val ∧
 CallV Tryz.prog 72 #[p0.im.val, p1.im.val] V1 fun v V2 => ∃ r2 : SpV, v = r2.val ∧
 R ((BoxV.mk r1 r2).val) V2) :
 CallV Tryz.prog 21 #[p0.val, p1.val] V R :=
 calls_of_vc (Shp := Shp) hmixed Tryz.func21 (c := Tryz.f21.body.getD .skip) (args := [p0.val, p1.val]) (by kernel_rfl)
 (.seq (.reg [A 2 3, A 3 3, A 4 3]) (.seq (.draw [(0, A 5 7), (1, A 2 4), (2, A 7 7), (3, A 3 4), (5, A 10 7), (6, A 2 4), (7, A 12 7), (8, A 3 4), (4, A 9 10), (9, A 14 10), (10, A 15 0), (11, A 4 6)] [0, 1, 0, 4, 15, 0, 32, 0, 128, 511, 1023, 2047]) .leaf))
 (Eq.mpr (by kernel_rfl) h)

theorem ref2_Box_Neg_vc (p0 : BoxV) (V : View) (R : Value → View → Prop) 
 (h :
 CallV Tryz.prog 72 #[(SpV.mk 0 0).val, p0.re.val] V fun v V1 => ∃ r1 : SpV, v = r1.val ∧
 CallV Tryz.prog 72 #[(SpV.mk 0 0).val, p0.im.val] V1 fun v V2 => ∃ r2 : SpV, v = r2.val ∧
 R ((BoxV.mk r1 r2).val) V2) :
 CallV Tryz.prog 23 #[p0.val] V R :=
 calls_of_vc (Shp := Shp) hmixed Tryz.func23 (c := Tryz.f23.body.getD .skip) (args := [p0.val]) (by kernel_rfl)
 (.seq (.reg [A 1 3, A 2 3]) (.seq (.draw [(0, A 3 0), (1, A 4 7), (2, A 1 4), (4, A 7 0), (5, A 8 7), (6, A 1 4), (3, A 6 10), (7, A 10 10), (8, A 11 0), (9, A 2 6)] [0, 0, 2, 7, 0, 0, 32, 127, 255, 511]) .leaf))
 (Eq.mpr (by kernel_rfl) h)

theorem ref2_Box_Conj_vc (p0 : BoxV) (V : View) (R : Value → View → Prop) 
 (h :
 CallV Tryz.prog 72 #[(SpV.mk 0 0).val, p0.im.val] V fun v V1 => ∃ r1 : SpV, v = r1.val ∧
 R ((BoxV.mk p0.re r1).val) V1) :
 CallV Tryz.prog 25 #[p0.val] V R :=
 calls_of_vc (Shp := Shp) hmixed Tryz.func25 (c := Tryz.f25.body.getD .skip) (args := [p0.val]) (by kernel_rfl)
 (.seq (.reg [A 1 3, A 2 3]) (.seq (.draw [(0, A 3 7), (1, A 1 4), (2, A 5 0), (3, A 6 7), (4, A 1 4), (5, A 8 10), (6, A 9 0), (7, A 2 6)] [0, 1, 0, 0, 8, 28, 63, 127]) .leaf))
 (Eq.mpr (by kernel_rfl) h)

end Go.Proofs.YtkibfmnkkiakoaaGreat
