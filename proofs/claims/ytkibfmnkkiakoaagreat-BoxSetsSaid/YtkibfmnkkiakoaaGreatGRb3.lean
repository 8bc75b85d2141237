/- Part of the proof; it has the parts GRb3. -/
import Derived.Test.YtkibfmnkkiakoaaGreatFLen
set_option maxRecDepth 100000
set_option maxHeartbeats 4000000
namespace Go.Proofs.YtkibfmnkkiakoaaGreat
open Go Go.Vc Go.Proofs
open Go.IntKind (i8 i16 i32 i64 u8 u16 u32 u64)

theorem ref1_Re_vc (p0 : NumV) (V : View) (R : Value → View → Prop) 
 (h :
 CallV Tryz.prog 196 #[p0.re.val, (WhV.mk false (Sl.mk none 0 0)).val, p0.under.v] V fun v V1 => ∃ r1 : NumV, v = r1.val ∧
 R (r1.val) V1) :
 CallV Tryz.prog 130 #[p0.val] V R :=
 calls_of_vc (Shp := Shp) hmixed Tryz.func130 (c := Tryz.f130.body.getD .skip) (args := [p0.val]) (by kernel_rfl)
 (.seq (.reg [A 1 3, A 2 3]) (.seq (.reg [A 3 7, A 1 4, A 5 0, A 6 7, A 1 4, A 8 10, A 2 6]) .leaf))
 (Eq.mpr (by kernel_rfl) h)

theorem ref1_Side_vc (p0 : NumV) (V : View) (R : Value → View → Prop) 
 (h :
 CallV Tryz.prog 131 #[p0.val] V fun v V1 => ∃ r1 : NumV, v = r1.val ∧
 CallV Tryz.prog 240 #[r1.val] V1 fun v V2 => ∃ r2 : Int, v = .int .i64 r2 ∧
 R (.int .i64 r2) V2) :
 CallV Tryz.prog 194 #[p0.val] V R :=
 calls_of_vc (Shp := Shp) hmixed Tryz.func194 (c := Tryz.f194.body.getD .skip) (args := [p0.val]) (by kernel_rfl)
 (.seq (.reg [A 1 3, A 2 2]) (.seq (.reg [A 1 4, A 4 10, A 5 10, A 2 2]) .leaf))
 (Eq.mpr (by kernel_rfl) h)

theorem ref2_isReal_vc (p0 : NumV) (V : View) (R : Value → View → Prop) 
 (h :
 CallV Tryz.prog 194 #[p0.val] V fun v V1 => ∃ r1 : Int, v = .int .i64 r1 ∧
 R (.bool ((r1 : Int) == 0)) V1) :
 CallV Tryz.prog 113 #[p0.val] V R :=
 calls_of_vc (Shp := Shp) hmixed Tryz.func113 (c := Tryz.f113.body.getD .skip) (args := [p0.val]) (by kernel_rfl)
 (.seq (.reg [A 1 3, A 2 9]) (.seq (.reg [A 1 4, A 4 10, A 5 0, A 2 2]) .leaf))
 (Eq.mpr (by kernel_rfl) h)

theorem ref2_Span_Has_vc (p0 : SpV) (p1 : NumV) (V : View) (R : Value → View → Prop) 
 (h :
 CallV Tryz.prog 113 #[p1.val] V fun v V1 => ∃ r1 : Bool, v = .bool r1 ∧
 (r1 = true →
 CallV Tryz.prog 119 #[.float .f64 p0.lo] V1 fun v V2 => ∃ r2 : BdV, v = r2.val ∧
 CallV Tryz.prog 114 #[p1.val] V2 fun v V3 => ∃ r3 : BdV, v = r3.val ∧
 CallV Tryz.prog 118 #[r2.val, r3.val] V3 fun v V4 => ∃ r4 : Int, v = .int .i64 r4 ∧
 ((decide ((r4 : Int) ≤ 0)) = true →
 CallV Tryz.prog 114 #[p1.val] V4 fun v V5 => ∃ r5 : BdV, v = r5.val ∧
 CallV Tryz.prog 119 #[.float .f64 p0.hi] V5 fun v V6 => ∃ r6 : BdV, v = r6.val ∧
 CallV Tryz.prog 118 #[r5.val, r6.val] V6 fun v V7 => ∃ r7 : Int, v = .int .i64 r7 ∧
 R (.bool (decide ((r7 : Int) ≤ 0))) V7) ∧
 ((decide ((r4 : Int) ≤ 0)) = false →
 R (.bool false) V4)) ∧
 (r1 = false →
 R (.bool false) V1)) :
 CallV Tryz.prog 40 #[p0.val, p1.val] V R :=
 calls_of_vc (Shp := Shp) hmixed Tryz.func40 (c := Tryz.f40.body.getD .skip) (args := [p0.val, p1.val]) (by kernel_rfl)
 (.seq (.reg [A 2 3, A 3 3, A 4 9]) (.seq (.draw [(0, A 3 4), (1, A 6 10), (2, ⟨7, 2, true⟩), (3, A 8 7), (4, A 2 4), (6, A 3 4), (5, A 10 10), (7, A 12 10), (8, A 13 10), (9, A 14 0), (10, A 15 20), (11, ⟨16, 2, true⟩), (12, A 3 4), (14, A 19 7), (15, A 2 4), (13, A 18 10), (16, A 21 10), (17, A 22 10), (18, A 23 0), (19, A 24 20), (20, A 4 2)] [0, 1, 3, 7, 15, 31, 7, 127, 255, 511, 1023, 2047, 4095, 8191, 4095, 20479, 65535, 131071, 262143, 524287, 1048575]) .leaf))
 (Eq.mpr (by kernel_rfl) h)

theorem ref2_hull_vc (p0 : SpV) (p1 : SpV) (V : View) (R : Value → View → Prop) 
 (h :
 (FloatKind.f64.format.order p0.lo p1.lo).isSome = true ∧
 (FloatKind.f64.format.order p0.hi p1.hi).isSome = true ∧
 R ((SpV.mk (fmin .f64 p0.lo p1.lo) (fmax .f64 p0.hi p1.hi)).val) V) :
 CallV Tryz.prog 134 #[p0.val, p1.val] V R :=
 calls_of_vc (Shp := Shp) hmixed Tryz.func134 (c := Tryz.f134.body.getD .skip) (args := [p0.val, p1.val]) (by kernel_rfl)
 (.seq (.reg [A 2 3, A 3 3, A 4 3]) (.seq (.reg [A 5 7, A 2 4, A 7 7, A 3 4, A 9 12, A 10 7, A 2 4, A 12 7, A 3 4, A 14 12, A 15 0, A 4 6]) .leaf))
 (Eq.mpr (by kernel_rfl) h)

theorem ref2_meet_vc (p0 : SpV) (p1 : SpV) (V : View) (R : Value → View → Prop) 
 (h :
 (FloatKind.f64.format.order p0.lo p1.lo).isSome = true ∧
 (FloatKind.f64.format.order p0.hi p1.hi).isSome = true ∧
 ((FloatKind.f64.format.order (fmax .f64 p0.lo p1.lo) (fmin .f64 p0.hi p1.hi) == some .gt) = true →
 R (.tuple #[(SpV.mk 0 0).val, .bool false]) V) ∧
 ((FloatKind.f64.format.order (fmax .f64 p0.lo p1.lo) (fmin .f64 p0.hi p1.hi) == some .gt) = false →
 R (.tuple #[(SpV.mk (fmax .f64 p0.lo p1.lo) (fmin .f64 p0.hi p1.hi)).val, .bool true]) V)) :
 CallV Tryz.prog 127 #[p0.val, p1.val] V R :=
 calls_of_vc (Shp := Shp) hmixed Tryz.func127 (c := Tryz.f127.body.getD .skip) (args := [p0.val, p1.val]) (by kernel_rfl)
 (.seq (.reg [A 2 3, A 3 3, A 4 3, A 5 9]) (.seq (.draw [(0, A 8 7), (1, A 2 4), (2, A 10 7), (3, A 3 4), (4, A 12 12), (5, A 13 7), (6, A 2 4), (7, A 15 7), (8, A 3 4), (9, A 17 12), (10, A 6 2), (11, A 7 2)] [0, 1, 0, 4, 15, 0, 32, 0, 128, 480, 31, 2047]) (.seq (.seq (.reg [A 18 2, A 19 2, A 20 0]) (.cond (.seq (.reg [A 21 0, A 4 6, A 5 9]) .leaf) .leaf)) (.seq (.reg [A 22 2, A 23 2, A 24 0, A 4 6, A 5 9]) .leaf))))
 (Eq.mpr (by kernel_rfl) h)

theorem ref2_Box_Hull_vc (p0 : BoxV) (p1 : BoxV) (V : View) (R : Value → View → Prop) 
 (h :
 CallV Tryz.prog 134 #[p0.re.val, p1.re.val] V fun v V1 => ∃ r1 : SpV, v = r1.val ∧
 CallV Tryz.prog 134 #[p0.im.val, p1.im.val] V1 fun v V2 => ∃ r2 : SpV, v = r2.val ∧
 R ((BoxV.mk r1 r2).val) V2) :
 CallV Tryz.prog 54 #[p0.val, p1.val] V R :=
 calls_of_vc (Shp := Shp) hmixed Tryz.func54 (c := Tryz.f54.body.getD .skip) (args := [p0.val, p1.val]) (by kernel_rfl)
 (.seq (.reg [A 2 3, A 3 3, A 4 3]) (.seq (.draw [(0, A 5 7), (1, A 2 4), (2, A 7 7), (3, A 3 4), (5, A 10 7), (6, A 2 4), (7, A 12 7), (8, A 3 4), (4, A 9 10), (9, A 14 10), (10, A 15 0), (11, A 4 6)] [0, 1, 0, 4, 15, 0, 32, 0, 128, 511, 1023, 2047]) .leaf))
 (Eq.mpr (by kernel_rfl) h)

theorem ref2_Box_Meet_vc (p0 : BoxV) (p1 : BoxV) (V : View) (R : Value → View → Prop) 
 (h :
 CallV Tryz.prog 127 #[p0.re.val, p1.re.val] V fun v V1 => ∃ (r1 : SpV) (r2 : Bool), v = .tuple #[r1.val, .bool r2] ∧
 CallV Tryz.prog 127 #[p0.im.val, p1.im.val] V1 fun v V2 => ∃ (r3 : SpV) (r4 : Bool), v = .tuple #[r3.val, .bool r4] ∧
 ((!r2) = true →
 R (.tuple #[(BoxV.mk (SpV.mk 0 0) (SpV.mk 0 0)).val, .bool false]) V2) ∧
 ((!r2) = false →
 ((!r4) = true →
 R (.tuple #[(BoxV.mk (SpV.mk 0 0) (SpV.mk 0 0)).val, .bool false]) V2) ∧
 ((!r4) = false →
 R (.tuple #[(BoxV.mk r1 r3).val, .bool true]) V2))) :
 CallV Tryz.prog 46 #[p0.val, p1.val] V R :=
 calls_of_vc (Shp := Shp) hmixed Tryz.func46 (c := Tryz.f46.body.getD .skip) (args := [p0.val, p1.val]) (by kernel_rfl)
 (.seq (.reg [A 2 3, A 3 3, A 4 3, A 5 9]) (.seq (.reg [A 11 7, A 2 4, A 13 7, A 3 4, A 15 10, A 10 2, A 16 0, A 17 0, A 6 3, A 6 6, A 7 2]) (.seq (.reg [A 19 7, A 2 4, A 21 7, A 3 4, A 23 10, A 18 2, A 24 0, A 25 0, A 8 3, A 8 6, A 9 2]) (.seq (.seq (.reg [A 26 2, A 27 20, ⟨28, 2, true⟩, A 29 2, A 30 20, A 31 20]) (.cond (.seq (.reg [A 32 0, A 4 6, A 5 9]) .leaf) .leaf)) (.seq (.reg [A 6 4, A 8 4, A 35 0, A 4 6, A 5 9]) .leaf)))))
 (Eq.mpr (by kernel_rfl) h)

theorem ref2_Box_In_vc (p0 : BoxV) (p1 : BoxV) (V : View) (R : Value → View → Prop) 
 (h :
 CallV Tryz.prog 132 #[p0.re.val, p1.re.val] V fun v V1 => ∃ r1 : Bool, v = .bool r1 ∧
 (r1 = true →
 CallV Tryz.prog 132 #[p0.im.val, p1.im.val] V1 fun v V2 => ∃ r2 : Bool, v = .bool r2 ∧
 R (.bool r2) V2) ∧
 (r1 = false →
 R (.bool false) V1)) :
 CallV Tryz.prog 52 #[p0.val, p1.val] V R :=
 calls_of_vc (Shp := Shp) hmixed Tryz.func52 (c := Tryz.f52.body.getD .skip) (args := [p0.val, p1.val]) (by kernel_rfl)
 (.seq (.reg [A 2 3, A 3 3, A 4 9]) (.seq (.reg [A 5 7, A 2 4, A 7 7, A 3 4, A 9 10, ⟨10, 2, true⟩, A 11 7, A 2 4, A 13 7, A 3 4, A 15 10, A 16 20, A 4 2]) .leaf))
 (Eq.mpr (by kernel_rfl) h)

theorem ref2_Box_Has_vc (p0 : BoxV) (p1 : NumV) (V : View) (R : Value → View → Prop) 
 (h :
 CallV Tryz.prog 130 #[p1.val] V fun v V1 => ∃ r1 : NumV, v = r1.val ∧
 CallV Tryz.prog 40 #[p0.re.val, r1.val] V1 fun v V2 => ∃ r2 : Bool, v = .bool r2 ∧
 (r2 = true →
 CallV Tryz.prog 131 #[p1.val] V2 fun v V3 => ∃ r3 : NumV, v = r3.val ∧
 CallV Tryz.prog 40 #[p0.im.val, r3.val] V3 fun v V4 => ∃ r4 : Bool, v = .bool r4 ∧
 R (.bool r4) V4) ∧
 (r2 = false →
 R (.bool false) V2)) :
 CallV Tryz.prog 50 #[p0.val, p1.val] V R :=
 calls_of_vc (Shp := Shp) hmixed Tryz.func50 (c := Tryz.f50.body.getD .skip) (args := [p0.val, p1.val]) (by kernel_rfl)
 (.seq (.reg [A 2 3, A 3 3, A 4 9]) (.seq (.draw [(0, A 5 7), (1, A 2 4), (2, A 3 4), (3, A 8 10), (4, A 9 10), (5, ⟨10, 2, true⟩), (6, A 11 7), (7, A 2 4), (8, A 3 4), (9, A 14 10), (10, A 15 10), (11, A 16 20), (12, A 4 2)] [0, 1, 0, 4, 15, 31, 63, 127, 63, 319, 1023, 2047, 4095]) .leaf))
 (Eq.mpr (by kernel_rfl) h)

theorem ref2_Of_vc (p0 : NumV) (V : View) (R : Value → View → Prop) 
 (h :
 CallV Tryz.prog 130 #[p0.val] V fun v V1 => ∃ r1 : NumV, v = r1.val ∧
 CallV Tryz.prog 114 #[r1.val] V1 fun v V2 => ∃ r2 : BdV, v = r2.val ∧
 CallV Tryz.prog 131 #[p0.val] V2 fun v V3 => ∃ r3 : NumV, v = r3.val ∧
 CallV Tryz.prog 114 #[r3.val] V3 fun v V4 => ∃ r4 : BdV, v = r4.val ∧
 CallV Tryz.prog 104 #[r2.val, r2.val] V4 fun v V5 => ∃ r5 : SpV, v = r5.val ∧
 CallV Tryz.prog 104 #[r4.val, r4.val] V5 fun v V6 => ∃ r6 : SpV, v = r6.val ∧
 R ((BoxV.mk r5 r6).val) V6) :
 CallV Tryz.prog 48 #[p0.val] V R :=
 calls_of_vc (Shp := Shp) hmixed Tryz.func48 (c := Tryz.f48.body.getD .skip) (args := [p0.val]) (by kernel_rfl)
 (.seq (.reg [A 1 3, A 2 3]) (.seq (.draw [(0, A 1 4), (3, A 1 4), (6, A 3 3), (7, A 4 3), (1, A 6 10), (2, A 7 10), (4, A 9 10), (5, A 10 10), (8, A 3 6), (9, A 4 6)] [0, 1, 3, 0, 15, 31, 0, 0, 255, 511]) (.seq (.draw [(0, A 3 4), (1, A 3 4), (3, A 4 4), (4, A 4 4), (2, A 13 10), (5, A 16 10), (6, A 17 0), (7, A 2 6)] [0, 0, 3, 0, 0, 31, 63, 127]) .leaf)))
 (Eq.mpr (by kernel_rfl) h)

end Go.Proofs.YtkibfmnkkiakoaaGreat
