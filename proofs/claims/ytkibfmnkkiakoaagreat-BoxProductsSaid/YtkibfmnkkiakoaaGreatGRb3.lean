/- Part of the proof; it has the parts GRb3. -/
import Derived.Test.YtkibfmnkkiakoaaGreatFLen
set_option maxRecDepth 100000
set_option maxHeartbeats 4000000
namespace Go.Proofs.YtkibfmnkkiakoaaGreat
open Go Go.Vc Go.Proofs
open Go.IntKind (i8 i16 i32 i64 u8 u16 u32 u64)

theorem ref2_Box_Mul_vc (p0 : BoxV) (p1 : BoxV) (V : View) (R : Value → View → Prop) 
 (h :
 CallV Tryz.prog 122 #[p0.re.val, p1.re.val] V fun v V1 => ∃ r1 : Sl, v = r1.v ∧
 CallV Tryz.prog 122 #[p0.im.val, p1.im.val] V1 fun v V2 => ∃ r2 : Sl, v = r2.v ∧
 CallV Tryz.prog 122 #[p0.re.val, p1.im.val] V2 fun v V3 => ∃ r3 : Sl, v = r3.v ∧
 CallV Tryz.prog 122 #[p0.im.val, p1.re.val] V3 fun v V4 => ∃ r4 : Sl, v = r4.v ∧
 CallV Tryz.prog 105 #[r1.v] V4 fun v V5 => ∃ r5 : BdV, v = r5.val ∧
 CallV Tryz.prog 106 #[r2.v] V5 fun v V6 => ∃ r6 : BdV, v = r6.val ∧
 CallV Tryz.prog 107 #[r6.val] V6 fun v V7 => ∃ r7 : BdV, v = r7.val ∧
 CallV Tryz.prog 123 #[r5.val, r7.val] V7 fun v V8 => ∃ r8 : BdV, v = r8.val ∧
 CallV Tryz.prog 106 #[r1.v] V8 fun v V9 => ∃ r9 : BdV, v = r9.val ∧
 CallV Tryz.prog 105 #[r2.v] V9 fun v V10 => ∃ r10 : BdV, v = r10.val ∧
 CallV Tryz.prog 107 #[r10.val] V10 fun v V11 => ∃ r11 : BdV, v = r11.val ∧
 CallV Tryz.prog 123 #[r9.val, r11.val] V11 fun v V12 => ∃ r12 : BdV, v = r12.val ∧
 CallV Tryz.prog 104 #[r8.val, r12.val] V12 fun v V13 => ∃ r13 : SpV, v = r13.val ∧
 CallV Tryz.prog 105 #[r3.v] V13 fun v V14 => ∃ r14 : BdV, v = r14.val ∧
 CallV Tryz.prog 105 #[r4.v] V14 fun v V15 => ∃ r15 : BdV, v = r15.val ∧
 CallV Tryz.prog 123 #[r14.val, r15.val] V15 fun v V16 => ∃ r16 : BdV, v = r16.val ∧
 CallV Tryz.prog 106 #[r3.v] V16 fun v V17 => ∃ r17 : BdV, v = r17.val ∧
 CallV Tryz.prog 106 #[r4.v] V17 fun v V18 => ∃ r18 : BdV, v = r18.val ∧
 CallV Tryz.prog 123 #[r17.val, r18.val] V18 fun v V19 => ∃ r19 : BdV, v = r19.val ∧
 CallV Tryz.prog 104 #[r16.val, r19.val] V19 fun v V20 => ∃ r20 : SpV, v = r20.val ∧
 R ((BoxV.mk r13 r20).val) V20) :
 CallV Tryz.prog 42 #[p0.val, p1.val] V R :=
 calls_of_vc (Shp := Shp) hmixed Tryz.func42 (c := Tryz.f42.body.getD .skip) (args := [p0.val, p1.val]) (by kernel_rfl)
 (.seq (.reg [A 2 3, A 3 3, A 4 3]) (.seq (.draw [(0, A 9 7), (1, A 2 4), (2, A 11 7), (3, A 3 4), (5, A 14 7), (6, A 2 4), (7, A 16 7), (8, A 3 4), (4, A 13 10), (9, A 18 10), (10, A 5 2), (11, A 6 2)] [0, 1, 0, 4, 15, 0, 32, 0, 128, 511, 1023, 2047]) (.seq (.draw [(0, A 19 7), (1, A 2 4), (2, A 21 7), (3, A 3 4), (5, A 24 7), (6, A 2 4), (7, A 26 7), (8, A 3 4), (4, A 23 10), (9, A 28 10), (10, A 7 2), (11, A 8 2)] [0, 1, 0, 4, 15, 0, 32, 0, 128, 511, 1023, 2047]) (.seq (.reg [A 29 2, A 30 10, A 31 2, A 32 10, A 33 10, A 34 10, A 35 2, A 36 10, A 37 2, A 38 10, A 39 10, A 40 10, A 41 10, A 42 2, A 43 10, A 44 2, A 45 10, A 46 10, A 47 2, A 48 10, A 49 2, A 50 10, A 51 10, A 52 10, A 53 0, A 4 6]) .leaf))))
 (Eq.mpr (by kernel_rfl) h)

theorem ref2_Span_squares_vc (p0 : SpV) (V : View) (R : Value → View → Prop) 
 (h :
 CallV Tryz.prog 119 #[.float .f64 p0.lo] V fun v V1 => ∃ r1 : BdV, v = r1.val ∧
 CallV Tryz.prog 119 #[.float .f64 p0.lo] V1 fun v V2 => ∃ r2 : BdV, v = r2.val ∧
 CallV Tryz.prog 205 #[r1.val, r2.val] V2 fun v V3 => ∃ r3 : BdV, v = r3.val ∧
 CallV Tryz.prog 119 #[.float .f64 p0.hi] V3 fun v V4 => ∃ r4 : BdV, v = r4.val ∧
 CallV Tryz.prog 119 #[.float .f64 p0.hi] V4 fun v V5 => ∃ r5 : BdV, v = r5.val ∧
 CallV Tryz.prog 205 #[r4.val, r5.val] V5 fun v V6 => ∃ r6 : BdV, v = r6.val ∧
 ∀ (b1 : Nat) (V7 : View), View.le V6 V7 → View.Fin V7 → V7 b1 = some #[.int .i64 r3.inf, .bool r3.x.re.neg, r3.x.re.mag.v, .bool r3.x.im.neg, r3.x.im.mag.v, r3.x.under.v, .int .i64 r6.inf, .bool r6.x.re.neg, r6.x.re.mag.v, .bool r6.x.im.neg, r6.x.im.mag.v, r6.x.under.v] →
 CallV Tryz.prog 105 #[(Sl.mk (some (Addr.mk b1 0 none)) 2 2).v] V7 fun v V8 => ∃ r7 : BdV, v = r7.val ∧
 (((FloatKind.f64.format.order p0.lo 0 == some .lt) || (FloatKind.f64.format.order p0.lo 0 == some .eq)) = true →
 (((FloatKind.f64.format.order p0.hi 0 == some .gt) || (FloatKind.f64.format.order p0.hi 0 == some .eq)) = true →
 CallV Tryz.prog 108 #[.int .i64 0] V8 fun v V9 => ∃ r8 : NumV, v = r8.val ∧
 CallV Tryz.prog 114 #[r8.val] V9 fun v V10 => ∃ r9 : BdV, v = r9.val ∧
 CallV Tryz.prog 106 #[(Sl.mk (some (Addr.mk b1 0 none)) 2 2).v] V10 fun v V11 => ∃ r10 : BdV, v = r10.val ∧
 R (.tuple #[r9.val, r10.val]) V11) ∧
 (((FloatKind.f64.format.order p0.hi 0 == some .gt) || (FloatKind.f64.format.order p0.hi 0 == some .eq)) = false →
 CallV Tryz.prog 106 #[(Sl.mk (some (Addr.mk b1 0 none)) 2 2).v] V8 fun v V12 => ∃ r11 : BdV, v = r11.val ∧
 R (.tuple #[r7.val, r11.val]) V12)) ∧
 (((FloatKind.f64.format.order p0.lo 0 == some .lt) || (FloatKind.f64.format.order p0.lo 0 == some .eq)) = false →
 CallV Tryz.prog 106 #[(Sl.mk (some (Addr.mk b1 0 none)) 2 2).v] V8 fun v V13 => ∃ r12 : BdV, v = r12.val ∧
 R (.tuple #[r7.val, r12.val]) V13)) :
 CallV Tryz.prog 125 #[p0.val] V R :=
 calls_of_vc (Shp := Shp) hmixed Tryz.func125 (c := Tryz.f125.body.getD .skip) (args := [p0.val]) (by kernel_rfl)
 (.seq (.reg [A 1 3, A 2 3, A 3 3]) (.seq (.draw [(0, A 6 7), (1, A 1 4), (3, A 9 7), (4, A 1 4), (7, A 13 7), (8, A 1 4), (10, A 16 7), (11, A 1 4), (2, A 8 10), (5, A 11 10), (6, A 12 10), (9, A 15 10), (12, A 18 10), (13, A 19 10), (14, A 20 11), (15, A 4 2)] [0, 1, 3, 0, 8, 31, 63, 0, 128, 511, 0, 1024, 4095, 8191, 16383, 32767]) (.seq (.reg [A 21 2, A 22 10, A 5 3, A 5 6]) (.seq (.seq (.reg [A 23 7, A 1 4, A 25 0, ⟨26, 2, true⟩, A 27 7, A 1 4, A 29 0, A 30 20]) (.cond (.reg [A 31 10, A 32 10, A 5 6]) .leaf)) (.seq (.draw [(0, A 5 4), (1, A 34 2), (2, A 35 10), (3, A 2 6), (4, A 3 6)] [0, 0, 2, 7, 15]) .leaf)))))
 (Eq.mpr (by kernel_rfl) h)

theorem ref2_Box_Norm_vc (p0 : BoxV) (V : View) (R : Value → View → Prop) 
 (h :
 CallV Tryz.prog 125 #[p0.re.val] V fun v V1 => ∃ (r1 : BdV) (r2 : BdV), v = .tuple #[r1.val, r2.val] ∧
 CallV Tryz.prog 125 #[p0.im.val] V1 fun v V2 => ∃ (r3 : BdV) (r4 : BdV), v = .tuple #[r3.val, r4.val] ∧
 CallV Tryz.prog 123 #[r1.val, r3.val] V2 fun v V3 => ∃ r5 : BdV, v = r5.val ∧
 CallV Tryz.prog 123 #[r2.val, r4.val] V3 fun v V4 => ∃ r6 : BdV, v = r6.val ∧
 CallV Tryz.prog 104 #[r5.val, r6.val] V4 fun v V5 => ∃ r7 : SpV, v = r7.val ∧
 R (r7.val) V5) :
 CallV Tryz.prog 44 #[p0.val] V R :=
 calls_of_vc (Shp := Shp) hmixed Tryz.func44 (c := Tryz.f44.body.getD .skip) (args := [p0.val]) (by kernel_rfl)
 (.seq (.reg [A 1 3, A 2 3]) (.seq (.reg [A 8 7, A 1 4, A 10 10, A 7 2, A 11 0, A 12 0, A 3 3, A 4 3, A 3 6, A 4 6]) (.seq (.reg [A 14 7, A 1 4, A 16 10, A 13 2, A 17 0, A 18 0, A 5 3, A 6 3, A 5 6, A 6 6]) (.seq (.draw [(0, A 3 4), (1, A 5 4), (3, A 4 4), (4, A 6 4), (2, A 21 10), (5, A 24 10), (6, A 25 10), (7, A 2 6)] [0, 0, 3, 0, 0, 31, 63, 127]) .leaf))))
 (Eq.mpr (by kernel_rfl) h)

end Go.Proofs.YtkibfmnkkiakoaaGreat
