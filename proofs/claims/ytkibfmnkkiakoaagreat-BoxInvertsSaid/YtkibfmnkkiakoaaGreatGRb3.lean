/- Part of the proof; it has the parts GRb3. -/
import Derived.Test.YtkibfmnkkiakoaaGreatFLen
set_option maxRecDepth 100000
set_option maxHeartbeats 4000000
namespace Go.Proofs.YtkibfmnkkiakoaaGreat
open Go Go.Vc Go.Proofs
open Go.IntKind (i8 i16 i32 i64 u8 u16 u32 u64)

theorem ref1_Re_vc (p0 : NumV) (V : View) (R : Value → View → Prop) 
 (h :
 CallV Tryz.prog 196 #[p0.re.val, (WhV.mk false (Sl.mk none 0 0)).val, p0.under.v] V fun v V1 => ∃ r1 : NumV, v = r1.val ∧
 R (r1.val) V1) :
 CallV Tryz.prog 130 #[p0.val] V R :=
 calls_of_vc (Shp := Shp) hmixed Tryz.func130 (c := Tryz.f130.body.getD .skip) (args := [p0.val]) (by kernel_rfl)
 (.seq (.reg [A 1 3, A 2 3]) (.seq (.reg [A 3 7, A 1 4, A 5 0, A 6 7, A 1 4, A 8 10, A 2 6]) .leaf))
 (Eq.mpr (by kernel_rfl) h)

theorem ref1_Side_vc (p0 : NumV) (V : View) (R : Value → View → Prop) 
 (h :
 CallV Tryz.prog 131 #[p0.val] V fun v V1 => ∃ r1 : NumV, v = r1.val ∧
 CallV Tryz.prog 240 #[r1.val] V1 fun v V2 => ∃ r2 : Int, v = .int .i64 r2 ∧
 R (.int .i64 r2) V2) :
 CallV Tryz.prog 194 #[p0.val] V R :=
 calls_of_vc (Shp := Shp) hmixed Tryz.func194 (c := Tryz.f194.body.getD .skip) (args := [p0.val]) (by kernel_rfl)
 (.seq (.reg [A 1 3, A 2 2]) (.seq (.reg [A 1 4, A 4 10, A 5 10, A 2 2]) .leaf))
 (Eq.mpr (by kernel_rfl) h)

theorem ref2_isReal_vc (p0 : NumV) (V : View) (R : Value → View → Prop) 
 (h :
 CallV Tryz.prog 194 #[p0.val] V fun v V1 => ∃ r1 : Int, v = .int .i64 r1 ∧
 R (.bool ((r1 : Int) == 0)) V1) :
 CallV Tryz.prog 113 #[p0.val] V R :=
 calls_of_vc (Shp := Shp) hmixed Tryz.func113 (c := Tryz.f113.body.getD .skip) (args := [p0.val]) (by kernel_rfl)
 (.seq (.reg [A 1 3, A 2 9]) (.seq (.reg [A 1 4, A 4 10, A 5 0, A 2 2]) .leaf))
 (Eq.mpr (by kernel_rfl) h)

theorem ref2_Span_Has_vc (p0 : SpV) (p1 : NumV) (V : View) (R : Value → View → Prop) 
 (h :
 CallV Tryz.prog 113 #[p1.val] V fun v V1 => ∃ r1 : Bool, v = .bool r1 ∧
 (r1 = true →
 CallV Tryz.prog 119 #[.float .f64 p0.lo] V1 fun v V2 => ∃ r2 : BdV, v = r2.val ∧
 CallV Tryz.prog 114 #[p1.val] V2 fun v V3 => ∃ r3 : BdV, v = r3.val ∧
 CallV Tryz.prog 118 #[r2.val, r3.val] V3 fun v V4 => ∃ r4 : Int, v = .int .i64 r4 ∧
 ((decide ((r4 : Int) ≤ 0)) = true →
 CallV Tryz.prog 114 #[p1.val] V4 fun v V5 => ∃ r5 : BdV, v = r5.val ∧
 CallV Tryz.prog 119 #[.float .f64 p0.hi] V5 fun v V6 => ∃ r6 : BdV, v = r6.val ∧
 CallV Tryz.prog 118 #[r5.val, r6.val] V6 fun v V7 => ∃ r7 : Int, v = .int .i64 r7 ∧
 R (.bool (decide ((r7 : Int) ≤ 0))) V7) ∧
 ((decide ((r4 : Int) ≤ 0)) = false →
 R (.bool false) V4)) ∧
 (r1 = false →
 R (.bool false) V1)) :
 CallV Tryz.prog 40 #[p0.val, p1.val] V R :=
 calls_of_vc (Shp := Shp) hmixed Tryz.func40 (c := Tryz.f40.body.getD .skip) (args := [p0.val, p1.val]) (by kernel_rfl)
 (.seq (.reg [A 2 3, A 3 3, A 4 9]) (.seq (.draw [(0, A 3 4), (1, A 6 10), (2, ⟨7, 2, true⟩), (3, A 8 7), (4, A 2 4), (6, A 3 4), (5, A 10 10), (7, A 12 10), (8, A 13 10), (9, A 14 0), (10, A 15 20), (11, ⟨16, 2, true⟩), (12, A 3 4), (14, A 19 7), (15, A 2 4), (13, A 18 10), (16, A 21 10), (17, A 22 10), (18, A 23 0), (19, A 24 20), (20, A 4 2)] [0, 1, 3, 7, 15, 31, 7, 127, 255, 511, 1023, 2047, 4095, 8191, 4095, 20479, 65535, 131071, 262143, 524287, 1048575]) .leaf))
 (Eq.mpr (by kernel_rfl) h)

theorem ref2_Box_Mul_vc (p0 : BoxV) (p1 : BoxV) (V : View) (R : Value → View → Prop) 
 (h :
 CallV Tryz.prog 122 #[p0.re.val, p1.re.val] V fun v V1 => ∃ r1 : Sl, v = r1.v ∧
 CallV Tryz.prog 122 #[p0.im.val, p1.im.val] V1 fun v V2 => ∃ r2 : Sl, v = r2.v ∧
 CallV Tryz.prog 122 #[p0.re.val, p1.im.val] V2 fun v V3 => ∃ r3 : Sl, v = r3.v ∧
 CallV Tryz.prog 122 #[p0.im.val, p1.re.val] V3 fun v V4 => ∃ r4 : Sl, v = r4.v ∧
 CallV Tryz.prog 105 #[r1.v] V4 fun v V5 => ∃ r5 : BdV, v = r5.val ∧
 CallV Tryz.prog 106 #[r2.v] V5 fun v V6 => ∃ r6 : BdV, v = r6.val ∧
 CallV Tryz.prog 107 #[r6.val] V6 fun v V7 => ∃ r7 : BdV, v = r7.val ∧
 CallV Tryz.prog 123 #[r5.val, r7.val] V7 fun v V8 => ∃ r8 : BdV, v = r8.val ∧
 CallV Tryz.prog 106 #[r1.v] V8 fun v V9 => ∃ r9 : BdV, v = r9.val ∧
 CallV Tryz.prog 105 #[r2.v] V9 fun v V10 => ∃ r10 : BdV, v = r10.val ∧
 CallV Tryz.prog 107 #[r10.val] V10 fun v V11 => ∃ r11 : BdV, v = r11.val ∧
 CallV Tryz.prog 123 #[r9.val, r11.val] V11 fun v V12 => ∃ r12 : BdV, v = r12.val ∧
 CallV Tryz.prog 104 #[r8.val, r12.val] V12 fun v V13 => ∃ r13 : SpV, v = r13.val ∧
 CallV Tryz.prog 105 #[r3.v] V13 fun v V14 => ∃ r14 : BdV, v = r14.val ∧
 CallV Tryz.prog 105 #[r4.v] V14 fun v V15 => ∃ r15 : BdV, v = r15.val ∧
 CallV Tryz.prog 123 #[r14.val, r15.val] V15 fun v V16 => ∃ r16 : BdV, v = r16.val ∧
 CallV Tryz.prog 106 #[r3.v] V16 fun v V17 => ∃ r17 : BdV, v = r17.val ∧
 CallV Tryz.prog 106 #[r4.v] V17 fun v V18 => ∃ r18 : BdV, v = r18.val ∧
 CallV Tryz.prog 123 #[r17.val, r18.val] V18 fun v V19 => ∃ r19 : BdV, v = r19.val ∧
 CallV Tryz.prog 104 #[r16.val, r19.val] V19 fun v V20 => ∃ r20 : SpV, v = r20.val ∧
 R ((BoxV.mk r13 r20).val) V20) :
 CallV Tryz.prog 42 #[p0.val, p1.val] V R :=
 calls_of_vc (Shp := Shp) hmixed Tryz.func42 (c := Tryz.f42.body.getD .skip) (args := [p0.val, p1.val]) (by kernel_rfl)
 (.seq (.reg [A 2 3, A 3 3, A 4 3]) (.seq (.draw [(0, A 9 7), (1, A 2 4), (2, A 11 7), (3, A 3 4), (5, A 14 7), (6, A 2 4), (7, A 16 7), (8, A 3 4), (4, A 13 10), (9, A 18 10), (10, A 5 2), (11, A 6 2)] [0, 1, 0, 4, 15, 0, 32, 0, 128, 511, 1023, 2047]) (.seq (.draw [(0, A 19 7), (1, A 2 4), (2, A 21 7), (3, A 3 4), (5, A 24 7), (6, A 2 4), (7, A 26 7), (8, A 3 4), (4, A 23 10), (9, A 28 10), (10, A 7 2), (11, A 8 2)] [0, 1, 0, 4, 15, 0, 32, 0, 128, 511, 1023, 2047]) (.seq (.reg [A 29 2, A 30 10, A 31 2, A 32 10, A 33 10, A 34 10, A 35 2, A 36 10, A 37 2, A 38 10, A 39 10, A 40 10, A 41 10, A 42 2, A 43 10, A 44 2, A 45 10, A 46 10, A 47 2, A 48 10, A 49 2, A 50 10, A 51 10, A 52 10, A 53 0, A 4 6]) .leaf))))
 (Eq.mpr (by kernel_rfl) h)

theorem ref2_Box_Has_vc (p0 : BoxV) (p1 : NumV) (V : View) (R : Value → View → Prop) 
 (h :
 CallV Tryz.prog 130 #[p1.val] V fun v V1 => ∃ r1 : NumV, v = r1.val ∧
 CallV Tryz.prog 40 #[p0.re.val, r1.val] V1 fun v V2 => ∃ r2 : Bool, v = .bool r2 ∧
 (r2 = true →
 CallV Tryz.prog 131 #[p1.val] V2 fun v V3 => ∃ r3 : NumV, v = r3.val ∧
 CallV Tryz.prog 40 #[p0.im.val, r3.val] V3 fun v V4 => ∃ r4 : Bool, v = .bool r4 ∧
 R (.bool r4) V4) ∧
 (r2 = false →
 R (.bool false) V2)) :
 CallV Tryz.prog 50 #[p0.val, p1.val] V R :=
 calls_of_vc (Shp := Shp) hmixed Tryz.func50 (c := Tryz.f50.body.getD .skip) (args := [p0.val, p1.val]) (by kernel_rfl)
 (.seq (.reg [A 2 3, A 3 3, A 4 9]) (.seq (.draw [(0, A 5 7), (1, A 2 4), (2, A 3 4), (3, A 8 10), (4, A 9 10), (5, ⟨10, 2, true⟩), (6, A 11 7), (7, A 2 4), (8, A 3 4), (9, A 14 10), (10, A 15 10), (11, A 16 20), (12, A 4 2)] [0, 1, 0, 4, 15, 31, 63, 127, 63, 319, 1023, 2047, 4095]) .leaf))
 (Eq.mpr (by kernel_rfl) h)

theorem ref2_Box_Clear_vc (p0 : BoxV) (V : View) (R : Value → View → Prop) 
 (h :
 CallV Tryz.prog 108 #[.int .i64 0] V fun v V1 => ∃ r1 : NumV, v = r1.val ∧
 CallV Tryz.prog 50 #[p0.val, r1.val] V1 fun v V2 => ∃ r2 : Bool, v = .bool r2 ∧
 R (.bool (!r2)) V2) :
 CallV Tryz.prog 31 #[p0.val] V R :=
 calls_of_vc (Shp := Shp) hmixed Tryz.func31 (c := Tryz.f31.body.getD .skip) (args := [p0.val]) (by kernel_rfl)
 (.seq (.reg [A 1 3, A 2 9]) (.seq (.draw [(0, A 1 4), (1, A 4 10), (2, A 5 10), (3, A 6 20), (4, A 2 2)] [0, 0, 3, 7, 15]) .leaf))
 (Eq.mpr (by kernel_rfl) h)

theorem ref2_Box_Side_vc (p0 : BoxV) (V : View) (R : Value → View → Prop) 
 (h :
 ((FloatKind.f64.format.order p0.im.lo 0 == some .gt) = true →
 R (.int .i64 1) V) ∧
 ((FloatKind.f64.format.order p0.im.lo 0 == some .gt) = false →
 ((FloatKind.f64.format.order p0.im.hi 0 == some .lt) = true →
 R (.int .i64 (-1)) V) ∧
 ((FloatKind.f64.format.order p0.im.hi 0 == some .lt) = false →
 R (.int .i64 0) V))) :
 CallV Tryz.prog 33 #[p0.val] V R :=
 calls_of_vc (Shp := Shp) hmixed Tryz.func33 (c := Tryz.f33.body.getD .skip) (args := [p0.val]) (by kernel_rfl)
 (.seq (.reg [A 1 3, A 2 2]) (.seq (.seq (.reg [A 3 7, A 4 7, A 1 4, A 6 0]) (.cond (.seq (.reg [A 2 2]) .leaf) .leaf)) (.seq (.seq (.reg [A 7 7, A 8 7, A 1 4, A 10 0]) (.cond (.seq (.reg [A 2 2]) .leaf) .leaf)) (.seq (.reg [A 2 2]) .leaf))))
 (Eq.mpr (by kernel_rfl) h)

end Go.Proofs.YtkibfmnkkiakoaaGreat
