/- Part of the proof; it has the parts GBl2. -/
import Derived.Test.YtkibfmnkkiakoaaGreatGRb3
set_option maxRecDepth 100000
set_option maxHeartbeats 4000000
namespace Go.Proofs.YtkibfmnkkiakoaaGreat
open Go Go.Vc Go.Proofs
open Go.IntKind (i8 i16 i32 i64 u8 u16 u32 u64)

theorem law2_Sides_Both_vc (p0 : SidesV) (V : View) (R : Value → View → Prop) 
 (h :
 CallV Tryz.prog 64 #[p0.re.val] V fun v V1 => ∃ (r1 : SpV) (r2 : SpV) (r3 : Bool), v = .tuple #[r1.val, r2.val, .bool r3] ∧
 CallV Tryz.prog 64 #[p0.im.val] V1 fun v V2 => ∃ (r4 : SpV) (r5 : SpV) (r6 : Bool), v = .tuple #[r4.val, r5.val, .bool r6] ∧
 CallV Tryz.prog 96 #[r1.val, r4.val] V2 fun v V3 => ∃ r7 : BoxV, v = r7.val ∧
 (r3 = true →
 R (.tuple #[r7.val, (BoxV.mk r2 r5).val, .bool r6]) V3) ∧
 (r3 = false →
 R (.tuple #[r7.val, (BoxV.mk r2 r5).val, .bool false]) V3)) :
 CallV Tryz.prog 16 #[p0.val] V R :=
 calls_of_vc (Shp := Shp) hmixed Tryz.func16 (c := Tryz.f16.body.getD .skip) (args := [p0.val]) (by kernel_rfl)
 (.seq (.reg [A 1 3, A 2 3, A 3 3, A 4 9]) (.seq (.reg [A 12 7, A 1 4, A 14 10, A 11 2, A 15 0, A 16 0, A 17 0, A 5 3, A 6 3, A 5 6, A 6 6, A 7 2]) (.seq (.reg [A 19 7, A 1 4, A 21 10, A 18 2, A 22 0, A 23 0, A 24 0, A 8 3, A 9 3, A 8 6, A 9 6, A 10 2]) (.seq (.draw [(0, A 5 4), (1, A 8 4), (3, A 6 4), (4, A 9 4), (5, A 30 0), (6, A 31 2), (2, A 27 10), (7, ⟨32, 2, true⟩), (8, A 33 2), (9, A 34 20), (10, A 2 6), (11, A 3 6), (12, A 4 2)] [0, 0, 3, 0, 0, 24, 0, 71, 199, 455, 199, 1279, 4095]) .leaf))))
 (Eq.mpr (by kernel_rfl) h)

theorem law2_Is_vc (p0 : BoxV) (p1 : BoxV) (V : View) (R : Value → View → Prop) 
 (h :
 CallV Tryz.prog 58 #[p0.val] V fun v V1 => ∃ r1 : CxV, v = .complex .f64 r1.re r1.im ∧
 CallV Tryz.prog 97 #[.float .f64 r1.re, .float .f64 p1.re.lo] V1 fun v V2 => ∃ r2 : Bool, v = .bool r2 ∧
 (r2 = true →
 CallV Tryz.prog 58 #[p0.val] V2 fun v V3 => ∃ r3 : CxV, v = .complex .f64 r3.re r3.im ∧
 CallV Tryz.prog 97 #[.float .f64 r3.im, .float .f64 p1.im.lo] V3 fun v V4 => ∃ r4 : Bool, v = .bool r4 ∧
 (r4 = true →
 CallV Tryz.prog 59 #[p0.val] V4 fun v V5 => ∃ r5 : CxV, v = .complex .f64 r5.re r5.im ∧
 CallV Tryz.prog 97 #[.float .f64 r5.re, .float .f64 p1.re.hi] V5 fun v V6 => ∃ r6 : Bool, v = .bool r6 ∧
 (r6 = true →
 CallV Tryz.prog 59 #[p0.val] V6 fun v V7 => ∃ r7 : CxV, v = .complex .f64 r7.re r7.im ∧
 CallV Tryz.prog 97 #[.float .f64 r7.im, .float .f64 p1.im.hi] V7 fun v V8 => ∃ r8 : Bool, v = .bool r8 ∧
 R (.bool r8) V8) ∧
 (r6 = false →
 R (.bool false) V6)) ∧
 (r4 = false →
 R (.bool false) V4)) ∧
 (r2 = false →
 R (.bool false) V2)) :
 CallV Tryz.prog 17 #[p0.val, p1.val] V R :=
 calls_of_vc (Shp := Shp) hmixed Tryz.func17 (c := Tryz.f17.body.getD .skip) (args := [p0.val, p1.val]) (by kernel_rfl)
 (.seq (.reg [A 2 3, A 3 3, A 4 9]) (.seq (.draw [(0, A 2 4), (3, A 8 7), (4, A 9 7), (5, A 3 4), (1, A 6 10), (2, A 7 0), (6, A 11 10), (7, ⟨12, 2, true⟩), (8, A 2 4), (11, A 16 7), (12, A 17 7), (13, A 3 4), (9, A 14 10), (10, A 15 0), (14, A 19 10), (15, A 20 20), (16, ⟨21, 2, true⟩), (17, A 2 4), (20, A 25 7), (21, A 26 7), (22, A 3 4), (18, A 23 10), (19, A 24 0), (23, A 28 10), (24, A 29 20), (25, ⟨30, 2, true⟩), (26, A 2 4), (29, A 34 7), (30, A 35 7), (31, A 3 4), (27, A 32 10), (28, A 33 0), (32, A 37 10), (33, A 38 20), (34, A 4 2)] [0, 1, 3, 0, 8, 24, 63, 127, 255, 511, 1023, 255, 2303, 6399, 16383, 32767, 65535, 131071, 262143, 524287, 131071, 1179647, 3276799, 8388607, 16777215, 33554431, 67108863, 134217727, 268435455, 67108863, 603979775, 1677721599, 4294967295, 8589934591, 17179869183]) .leaf))
 (Eq.mpr (by kernel_rfl) h)

end Go.Proofs.YtkibfmnkkiakoaaGreat
