/- Part of the proof; it has the parts GBl7. -/
import Derived.Test.YtkibfmnkkiakoaaGreatFNum1
set_option maxRecDepth 100000
set_option maxHeartbeats 4000000
namespace Go.Proofs.YtkibfmnkkiakoaaGreat
open Go Go.Vc Go.Proofs
open Go.IntKind (i8 i16 i32 i64 u8 u16 u32 u64)

theorem law2_BoxSquares_vc (p0 : SidesV) (V : View) (R : Value → View → Prop) 
 (h :
 CallV Tryz.prog 15 #[] V fun v V1 => ∃ r1 : Bool, v = .bool r1 ∧
 ((!r1) = true →
 R (.bool false) V1) ∧
 ((!r1) = false →
 CallV Tryz.prog 16 #[p0.val] V1 fun v V2 => ∃ (r2 : BoxV) (r3 : BoxV) (r4 : Bool), v = .tuple #[r2.val, r3.val, .bool r4] ∧
 ((!r4) = true →
 R (.bool true) V2) ∧
 ((!r4) = false →
 CallV Tryz.prog 61 #[r2.val] V2 fun v V3 => ∃ (r5 : BoxV) (r6 : Bool), v = .tuple #[r5.val, .bool r6] ∧
 CallV Tryz.prog 43 #[r2.val] V3 fun v V4 => ∃ r7 : SpV, v = r7.val ∧
 CallV Tryz.prog 24 #[r2.val] V4 fun v V5 => ∃ r8 : BoxV, v = r8.val ∧
 CallV Tryz.prog 43 #[r8.val] V5 fun v V6 => ∃ r9 : SpV, v = r9.val ∧
 (r6 = true →
 CallV Tryz.prog 41 #[r5.val, r5.val] V6 fun v V7 => ∃ r10 : BoxV, v = r10.val ∧
 CallV Tryz.prog 51 #[r2.val, r10.val] V7 fun v V8 => ∃ r11 : Bool, v = .bool r11 ∧
 (r11 = true →
 CallV Tryz.prog 63 #[r7.val, r9.val] V8 fun v V9 => ∃ r12 : Bool, v = .bool r12 ∧
 (r12 = true →
 CallV Tryz.prog 63 #[r9.val, r7.val] V9 fun v V10 => ∃ r13 : Bool, v = .bool r13 ∧
 (r13 = true →
 CallV Tryz.prog 58 #[r5.val] V10 fun v V11 => ∃ r14 : CxV, v = .complex .f64 r14.re r14.im ∧
 R (.bool ((FloatKind.f64.format.order r14.re 0 == some .gt) || (FloatKind.f64.format.order r14.re 0 == some .eq))) V11) ∧
 (r13 = false →
 R (.bool false) V10)) ∧
 (r12 = false →
 R (.bool false) V9)) ∧
 (r11 = false →
 R (.bool false) V8)) ∧
 (r6 = false →
 R (.bool false) V6)))) :
 CallV Tryz.prog 10 #[p0.val] V R :=
 calls_of_vc (Shp := Shp) hmixed Tryz.func10 (c := Tryz.f10.body.getD .skip) (args := [p0.val]) (by kernel_rfl)
 (.seq (.reg [A 1 3, A 2 9]) (.seq (.seq (.reg [A 10 10, A 11 20]) (.cond (.seq (.reg [A 2 9]) .leaf) .leaf)) (.seq (.reg [A 1 4, A 14 10, A 12 2, A 15 0, A 16 0, A 17 0, A 3 3, A 4 3, A 3 6, A 4 6, A 5 2]) (.seq (.seq (.reg [A 18 2, A 19 20]) (.cond (.seq (.reg [A 2 9]) .leaf) .leaf)) (.seq (.reg [A 3 4, A 22 10, A 20 2, A 23 0, A 24 0, A 6 3, A 6 6, A 7 2]) (.seq (.draw [(0, A 3 4), (2, A 3 4), (5, A 8 3), (6, A 9 3), (1, A 26 10), (3, A 28 10), (4, A 29 10), (7, A 8 6), (8, A 9 6)] [0, 1, 0, 7, 15, 0, 0, 127, 255]) (.seq (.draw [(0, A 30 2), (1, ⟨31, 2, true⟩), (2, A 3 4), (3, A 6 4), (4, A 6 4), (5, A 35 10), (6, A 36 10), (7, A 37 20), (8, ⟨38, 2, true⟩), (9, A 8 4), (10, A 9 4), (11, A 41 10), (12, A 42 20), (13, ⟨43, 2, true⟩), (14, A 9 4), (15, A 8 4), (16, A 46 10), (17, A 47 20), (18, ⟨48, 2, true⟩), (19, A 6 4), (20, A 50 10), (21, A 51 0), (22, A 52 0), (23, A 53 20), (24, A 2 2)] [0, 1, 3, 3, 3, 27, 63, 127, 255, 511, 511, 2047, 4095, 8191, 16383, 16383, 65535, 131071, 262143, 524287, 1048575, 2097151, 4194303, 8388607, 16777215]) .leaf)))))))
 (Eq.mpr (by kernel_rfl) h)

end Go.Proofs.YtkibfmnkkiakoaaGreat
