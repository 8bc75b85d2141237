/- Part of the proof; it has the parts GBx2. -/
import Derived.Test.YtkibfmnkkiakoaaGreatGBx3
set_option maxRecDepth 100000
set_option maxHeartbeats 4000000
namespace Go.Proofs.YtkibfmnkkiakoaaGreat
open Go Go.Vc Go.Proofs
open Go.IntKind (i8 i16 i32 i64 u8 u16 u32 u64)

theorem box_plain_vc (p0 : Nat) (V : View) (R : Value → View → Prop) 
 (h :
 ((FloatKind.f64.format.order p0 0 == some .eq) = true →
 R (.float .f64 0) V) ∧
 ((FloatKind.f64.format.order p0 0 == some .eq) = false →
 R (.float .f64 p0) V)) :
 CallV Tryz.prog 148 #[.float .f64 p0] V R :=
 calls_of_vc (Shp := Shp) hmixed Tryz.func148 (c := Tryz.f148.body.getD .skip) (args := [.float .f64 p0]) (by kernel_rfl)
 (.seq (.reg [A 2 2]) (.seq (.seq (.reg [A 3 2, A 4 0]) (.cond (.seq (.reg [A 2 2]) .leaf) .leaf)) (.seq (.reg [A 5 2, A 2 2]) .leaf)))
 (Eq.mpr (by kernel_rfl) h)

theorem box_MakeSpan_vc (p0 : Nat) (p1 : Nat) (V : View) (R : Value → View → Prop) 
 (h :
 CallV Tryz.prog 206 #[.float .f64 p0] V fun v V1 => ∃ r1 : Bool, v = .bool r1 ∧
 (r1 = true →
 R (.tuple #[(SpV.mk 0 0).val, .int .i64 1]) V1) ∧
 (r1 = false →
 CallV Tryz.prog 206 #[.float .f64 p1] V1 fun v V2 => ∃ r2 : Bool, v = .bool r2 ∧
 (r2 = true →
 R (.tuple #[(SpV.mk 0 0).val, .int .i64 1]) V2) ∧
 (r2 = false →
 CallV Tryz.prog 200 #[.float .f64 p0, .int .i64 1] V2 fun v V3 => ∃ r3 : Bool, v = .bool r3 ∧
 (r3 = true →
 R (.tuple #[(SpV.mk 0 0).val, .int .i64 1]) V3) ∧
 (r3 = false →
 CallV Tryz.prog 200 #[.float .f64 p1, .int .i64 (-1)] V3 fun v V4 => ∃ r4 : Bool, v = .bool r4 ∧
 (r4 = true →
 R (.tuple #[(SpV.mk 0 0).val, .int .i64 1]) V4) ∧
 (r4 = false →
 ((FloatKind.f64.format.order p0 p1 == some .gt) = true →
 R (.tuple #[(SpV.mk 0 0).val, .int .i64 7]) V4) ∧
 ((FloatKind.f64.format.order p0 p1 == some .gt) = false →
 CallV Tryz.prog 148 #[.float .f64 p0] V4 fun v V5 => ∃ r5 : Nat, v = .float .f64 r5 ∧
 CallV Tryz.prog 148 #[.float .f64 p1] V5 fun v V6 => ∃ r6 : Nat, v = .float .f64 r6 ∧
 R (.tuple #[(SpV.mk r5 r6).val, .int .i64 0]) V6)))))) :
 CallV Tryz.prog 153 #[.float .f64 p0, .float .f64 p1] V R :=
 calls_of_vc (Shp := Shp) hmixed Tryz.func153 (c := Tryz.f153.body.getD .skip) (args := [.float .f64 p0, .float .f64 p1]) (by kernel_rfl)
 (.seq (.reg [A 4 3, A 5 2]) (.seq (.block (.seq (.reg [A 7 2, A 8 10, ⟨9, 2, true⟩, A 10 2, A 11 10, A 12 20, ⟨13, 2, true⟩, A 14 2, A 15 10, A 16 20, ⟨17, 2, true⟩, A 18 2, A 19 10, A 20 20, A 6 2]) (.cond (.seq (.reg [A 21 0, A 4 6, A 5 2]) .leaf) (.seq (.reg [A 23 2, A 24 2, A 25 0, A 22 2]) (.cond (.seq (.reg [A 26 0, A 4 6, A 5 2]) .leaf) .leaf))))) (.seq (.reg [A 27 2, A 28 10, A 29 2, A 30 10, A 31 0, A 4 6, A 5 2]) .leaf)))
 (Eq.mpr (by kernel_rfl) h)

theorem box_hull_vc (p0 : SpV) (p1 : SpV) (V : View) (R : Value → View → Prop) 
 (h :
 (FloatKind.f64.format.order p0.lo p1.lo).isSome = true ∧
 (FloatKind.f64.format.order p0.hi p1.hi).isSome = true ∧
 R ((SpV.mk (fmin .f64 p0.lo p1.lo) (fmax .f64 p0.hi p1.hi)).val) V) :
 CallV Tryz.prog 133 #[p0.val, p1.val] V R :=
 calls_of_vc (Shp := Shp) hmixed Tryz.func133 (c := Tryz.f133.body.getD .skip) (args := [p0.val, p1.val]) (by kernel_rfl)
 (.seq (.reg [A 2 3, A 3 3, A 4 3]) (.seq (.reg [A 5 7, A 2 4, A 7 7, A 3 4, A 9 12, A 10 7, A 2 4, A 12 7, A 3 4, A 14 12, A 15 0, A 4 6]) .leaf))
 (Eq.mpr (by kernel_rfl) h)

theorem box_meet_vc (p0 : SpV) (p1 : SpV) (V : View) (R : Value → View → Prop) 
 (h :
 (FloatKind.f64.format.order p0.lo p1.lo).isSome = true ∧
 (FloatKind.f64.format.order p0.hi p1.hi).isSome = true ∧
 R (.tuple #[(SpV.mk (fmax .f64 p0.lo p1.lo) (fmin .f64 p0.hi p1.hi)).val, .bool ((FloatKind.f64.format.order (fmax .f64 p0.lo p1.lo) (fmin .f64 p0.hi p1.hi) == some .lt) || (FloatKind.f64.format.order (fmax .f64 p0.lo p1.lo) (fmin .f64 p0.hi p1.hi) == some .eq))]) V) :
 CallV Tryz.prog 126 #[p0.val, p1.val] V R :=
 calls_of_vc (Shp := Shp) hmixed Tryz.func126 (c := Tryz.f126.body.getD .skip) (args := [p0.val, p1.val]) (by kernel_rfl)
 (.seq (.reg [A 2 3, A 3 3, A 4 3, A 5 9]) (.seq (.reg [A 7 7, A 2 4, A 9 7, A 3 4, A 11 12, A 12 7, A 2 4, A 14 7, A 3 4, A 16 12, A 17 0, A 6 3, A 6 6]) (.seq (.draw [(0, A 6 4), (1, A 19 7), (2, A 6 4), (3, A 21 7), (4, A 6 4), (5, A 23 0), (6, A 4 6), (7, A 5 2)] [0, 0, 2, 0, 8, 30, 1, 127]) .leaf)))
 (Eq.mpr (by kernel_rfl) h)

theorem Span_set_vc (p0 : SpV) (V : View) (R : Value → View → Prop) 
 (h :
 CallV Tryz.prog 183 #[.float .f64 p0.lo] V fun v V1 => ∃ r1 : BdV, v = r1.val ∧
 CallV Tryz.prog 183 #[.float .f64 p0.hi] V1 fun v V2 => ∃ r2 : BdV, v = r2.val ∧
 R ((SetV.mk r1 r2).val) V2) :
 CallV Tryz.prog 99 #[p0.val] V R :=
 calls_of_vc (Shp := Shp) hmixed Tryz.func99 (c := Tryz.f99.body.getD .skip) (args := [p0.val]) (by kernel_rfl)
 (.seq (.reg [A 1 3, A 2 3]) (.seq (.draw [(0, A 3 7), (1, A 1 4), (3, A 6 7), (4, A 1 4), (2, A 5 10), (5, A 8 10), (6, A 9 0), (7, A 2 6)] [0, 1, 3, 0, 8, 31, 63, 127]) .leaf))
 (Eq.mpr (by kernel_rfl) h)

theorem Span_Has_vc (p0 : SpV) (p1 : NumV) (V : View) (R : Value → View → Prop) 
 (h :
 CallV Tryz.prog 99 #[p0.val] V fun v V1 => ∃ r1 : SetV, v = r1.val ∧
 CallV Tryz.prog 109 #[p1.val] V1 fun v V2 => ∃ r2 : Bool, v = .bool r2 ∧
 (r2 = true →
 CallV Tryz.prog 117 #[r1.lo.val, (BdV.mk 0 p1).val] V2 fun v V3 => ∃ r3 : Int, v = .int .i64 r3 ∧
 ((decide ((r3 : Int) ≤ 0)) = true →
 CallV Tryz.prog 117 #[(BdV.mk 0 p1).val, r1.hi.val] V3 fun v V4 => ∃ r4 : Int, v = .int .i64 r4 ∧
 R (.bool (decide ((r4 : Int) ≤ 0))) V4) ∧
 ((decide ((r3 : Int) ≤ 0)) = false →
 R (.bool false) V3)) ∧
 (r2 = false →
 R (.bool false) V2)) :
 CallV Tryz.prog 39 #[p0.val, p1.val] V R :=
 calls_of_vc (Shp := Shp) hmixed Tryz.func39 (c := Tryz.f39.body.getD .skip) (args := [p0.val, p1.val]) (by kernel_rfl)
 (.seq (.reg [A 2 3, A 3 3, A 4 9]) (.seq (.draw [(0, A 2 4), (2, A 3 4), (3, A 10 0), (4, A 5 3), (5, A 6 3), (1, A 8 10), (6, A 5 6), (7, A 6 6)] [0, 1, 0, 4, 0, 0, 51, 127]) (.seq (.reg [A 3 4, A 12 10, ⟨13, 2, true⟩, A 14 7, A 5 4, A 6 4, A 17 10, A 18 0, A 19 20, ⟨20, 2, true⟩, A 6 4, A 22 7, A 5 4, A 24 10, A 25 0, A 26 20, A 4 2]) .leaf)))
 (Eq.mpr (by kernel_rfl) h)

theorem Span_In_vc (p0 : SpV) (p1 : SpV) (V : View) (R : Value → View → Prop) 
 (h :
 (((FloatKind.f64.format.order p1.lo p0.lo == some .lt) || (FloatKind.f64.format.order p1.lo p0.lo == some .eq)) = true →
 R (.bool ((FloatKind.f64.format.order p0.hi p1.hi == some .lt) || (FloatKind.f64.format.order p0.hi p1.hi == some .eq))) V) ∧
 (((FloatKind.f64.format.order p1.lo p0.lo == some .lt) || (FloatKind.f64.format.order p1.lo p0.lo == some .eq)) = false →
 R (.bool false) V)) :
 CallV Tryz.prog 63 #[p0.val, p1.val] V R :=
 calls_of_vc (Shp := Shp) hmixed Tryz.func63 (c := Tryz.f63.body.getD .skip) (args := [p0.val, p1.val]) (by kernel_rfl)
 (.seq (.reg [A 2 3, A 3 3, A 4 9]) (.seq (.reg [A 5 7, A 3 4, A 7 7, A 2 4, A 9 0, ⟨10, 2, true⟩, A 11 7, A 2 4, A 13 7, A 3 4, A 15 0, A 16 20, A 4 2]) .leaf))
 (Eq.mpr (by kernel_rfl) h)

theorem box_Make_vc (p0 : CxV) (p1 : CxV) (V : View) (R : Value → View → Prop) 
 (h :
 CallV Tryz.prog 153 #[.float .f64 p0.re, .float .f64 p1.re] V fun v V1 => ∃ (r1 : SpV) (r2 : Int), v = .tuple #[r1.val, .int .i64 r2] ∧
 CallV Tryz.prog 153 #[.float .f64 p0.im, .float .f64 p1.im] V1 fun v V2 => ∃ (r3 : SpV) (r4 : Int), v = .tuple #[r3.val, .int .i64 r4] ∧
 (((r2 : Int) == 1) = true →
 R (.tuple #[(BoxV.mk (SpV.mk 0 0) (SpV.mk 0 0)).val, .int .i64 1]) V2) ∧
 (((r2 : Int) == 1) = false →
 (((r4 : Int) == 1) = true →
 R (.tuple #[(BoxV.mk (SpV.mk 0 0) (SpV.mk 0 0)).val, .int .i64 1]) V2) ∧
 (((r4 : Int) == 1) = false →
 (((r2 : Int) != 0) = true →
 R (.tuple #[(BoxV.mk (SpV.mk 0 0) (SpV.mk 0 0)).val, .int .i64 7]) V2) ∧
 (((r2 : Int) != 0) = false →
 (((r4 : Int) != 0) = true →
 R (.tuple #[(BoxV.mk (SpV.mk 0 0) (SpV.mk 0 0)).val, .int .i64 7]) V2) ∧
 (((r4 : Int) != 0) = false →
 R (.tuple #[(BoxV.mk r1 r3).val, .int .i64 0]) V2))))) :
 CallV Tryz.prog 95 #[.complex .f64 p0.re p0.im, .complex .f64 p1.re p1.im] V R :=
 calls_of_vc (Shp := Shp) hmixed Tryz.func95 (c := Tryz.f95.body.getD .skip) (args := [.complex .f64 p0.re p0.im, .complex .f64 p1.re p1.im]) (by kernel_rfl)
 (.seq (.reg [A 4 3, A 5 2]) (.seq (.reg [A 11 2, A 12 0, A 13 2, A 14 0, A 15 10, A 10 2, A 16 0, A 17 0, A 6 3, A 6 6, A 7 2]) (.seq (.reg [A 19 2, A 20 0, A 21 2, A 22 0, A 23 10, A 18 2, A 24 0, A 25 0, A 8 3, A 8 6, A 9 2]) (.seq (.block (.seq (.reg [A 27 2, A 28 0, ⟨29, 2, true⟩, A 30 2, A 31 0, A 32 20, A 26 2]) (.cond (.seq (.reg [A 33 0, A 4 6, A 5 2]) .leaf) (.seq (.reg [A 35 2, A 36 0, ⟨37, 2, true⟩, A 38 2, A 39 0, A 40 20, A 34 2]) (.cond (.seq (.reg [A 41 0, A 4 6, A 5 2]) .leaf) .leaf))))) (.seq (.reg [A 6 4, A 8 4, A 44 0, A 4 6, A 5 2]) .leaf)))))
 (Eq.mpr (by kernel_rfl) h)

theorem Box_Has_vc (p0 : BoxV) (p1 : NumV) (V : View) (R : Value → View → Prop) 
 (h :
 CallV Tryz.prog 128 #[p1.val] V fun v V1 => ∃ r1 : NumV, v = r1.val ∧
 CallV Tryz.prog 39 #[p0.re.val, r1.val] V1 fun v V2 => ∃ r2 : Bool, v = .bool r2 ∧
 (r2 = true →
 CallV Tryz.prog 129 #[p1.val] V2 fun v V3 => ∃ r3 : NumV, v = r3.val ∧
 CallV Tryz.prog 39 #[p0.im.val, r3.val] V3 fun v V4 => ∃ r4 : Bool, v = .bool r4 ∧
 R (.bool r4) V4) ∧
 (r2 = false →
 R (.bool false) V2)) :
 CallV Tryz.prog 49 #[p0.val, p1.val] V R :=
 calls_of_vc (Shp := Shp) hmixed Tryz.func49 (c := Tryz.f49.body.getD .skip) (args := [p0.val, p1.val]) (by kernel_rfl)
 (.seq (.reg [A 2 3, A 3 3, A 4 9]) (.seq (.draw [(0, A 5 7), (1, A 2 4), (2, A 3 4), (3, A 8 10), (4, A 9 10), (5, ⟨10, 2, true⟩), (6, A 11 7), (7, A 2 4), (8, A 3 4), (9, A 14 10), (10, A 15 10), (11, A 16 20), (12, A 4 2)] [0, 1, 0, 4, 15, 31, 63, 127, 63, 319, 1023, 2047, 4095]) .leaf))
 (Eq.mpr (by kernel_rfl) h)

theorem Box_Clear_vc (p0 : BoxV) (V : View) (R : Value → View → Prop) 
 (h :
 CallV Tryz.prog 49 #[p0.val, (NumV.mk (WhV.mk false (Sl.mk none 0 0)) (WhV.mk false (Sl.mk none 0 0)) (Sl.mk none 0 0)).val] V fun v V1 => ∃ r1 : Bool, v = .bool r1 ∧
 R (.bool (!r1)) V1) :
 CallV Tryz.prog 30 #[p0.val] V R :=
 calls_of_vc (Shp := Shp) hmixed Tryz.func30 (c := Tryz.f30.body.getD .skip) (args := [p0.val]) (by kernel_rfl)
 (.seq (.reg [A 1 3, A 2 9]) (.seq (.reg [A 1 4, A 4 0, A 5 10, A 6 20, A 2 2]) .leaf))
 (Eq.mpr (by kernel_rfl) h)

theorem box_Pair_vc (p0 : SpV) (p1 : SpV) (V : View) (R : Value → View → Prop) 
 (h :
 R ((BoxV.mk p0 p1).val) V) :
 CallV Tryz.prog 96 #[p0.val, p1.val] V R :=
 calls_of_vc (Shp := Shp) hmixed Tryz.func96 (c := Tryz.f96.body.getD .skip) (args := [p0.val, p1.val]) (by kernel_rfl)
 (.seq (.reg [A 2 3, A 3 3, A 4 3]) (.seq (.reg [A 2 4, A 3 4, A 7 0, A 4 6]) .leaf))
 (Eq.mpr (by kernel_rfl) h)

theorem Box_Lo_vc (p0 : BoxV) (V : View) (R : Value → View → Prop) 
 (h :
 R (.complex .f64 (CxV.mk p0.re.lo p0.im.lo).re (CxV.mk p0.re.lo p0.im.lo).im) V) :
 CallV Tryz.prog 58 #[p0.val] V R :=
 calls_of_vc (Shp := Shp) hmixed Tryz.func58 (c := Tryz.f58.body.getD .skip) (args := [p0.val]) (by kernel_rfl)
 (.seq (.reg [A 1 3, A 2 2]) (.seq (.reg [A 3 7, A 4 7, A 1 4, A 6 7, A 7 7, A 1 4, A 9 0, A 2 2]) .leaf))
 (Eq.mpr (by kernel_rfl) h)

theorem Box_Hi_vc (p0 : BoxV) (V : View) (R : Value → View → Prop) 
 (h :
 R (.complex .f64 (CxV.mk p0.re.hi p0.im.hi).re (CxV.mk p0.re.hi p0.im.hi).im) V) :
 CallV Tryz.prog 59 #[p0.val] V R :=
 calls_of_vc (Shp := Shp) hmixed Tryz.func59 (c := Tryz.f59.body.getD .skip) (args := [p0.val]) (by kernel_rfl)
 (.seq (.reg [A 1 3, A 2 2]) (.seq (.reg [A 3 7, A 4 7, A 1 4, A 6 7, A 7 7, A 1 4, A 9 0, A 2 2]) .leaf))
 (Eq.mpr (by kernel_rfl) h)

theorem Box_Mul_vc (p0 : BoxV) (p1 : BoxV) (V : View) (R : Value → View → Prop) 
 (h :
 CallV Tryz.prog 99 #[p0.re.val] V fun v V1 => ∃ r1 : SetV, v = r1.val ∧
 CallV Tryz.prog 99 #[p0.im.val] V1 fun v V2 => ∃ r2 : SetV, v = r2.val ∧
 CallV Tryz.prog 99 #[p1.re.val] V2 fun v V3 => ∃ r3 : SetV, v = r3.val ∧
 CallV Tryz.prog 99 #[p1.im.val] V3 fun v V4 => ∃ r4 : SetV, v = r4.val ∧
 CallV Tryz.prog 120 #[r1.val, r3.val] V4 fun v V5 => ∃ r5 : SetV, v = r5.val ∧
 CallV Tryz.prog 120 #[r2.val, r4.val] V5 fun v V6 => ∃ r6 : SetV, v = r6.val ∧
 CallV Tryz.prog 102 #[r6.val] V6 fun v V7 => ∃ r7 : SetV, v = r7.val ∧
 CallV Tryz.prog 121 #[r5.val, r7.val] V7 fun v V8 => ∃ r8 : SetV, v = r8.val ∧
 CallV Tryz.prog 101 #[r8.val] V8 fun v V9 => ∃ r9 : SpV, v = r9.val ∧
 CallV Tryz.prog 120 #[r1.val, r4.val] V9 fun v V10 => ∃ r10 : SetV, v = r10.val ∧
 CallV Tryz.prog 120 #[r2.val, r3.val] V10 fun v V11 => ∃ r11 : SetV, v = r11.val ∧
 CallV Tryz.prog 121 #[r10.val, r11.val] V11 fun v V12 => ∃ r12 : SetV, v = r12.val ∧
 CallV Tryz.prog 101 #[r12.val] V12 fun v V13 => ∃ r13 : SpV, v = r13.val ∧
 R ((BoxV.mk r9 r13).val) V13) :
 CallV Tryz.prog 41 #[p0.val, p1.val] V R :=
 calls_of_vc (Shp := Shp) hmixed Tryz.func41 (c := Tryz.f41.body.getD .skip) (args := [p0.val, p1.val]) (by kernel_rfl)
 (.seq (.reg [A 2 3, A 3 3, A 4 3]) (.seq (.draw [(0, A 9 7), (1, A 2 4), (3, A 12 7), (4, A 2 4), (6, A 15 7), (7, A 3 4), (9, A 18 7), (10, A 3 4), (12, A 5 3), (13, A 6 3), (14, A 7 3), (15, A 8 3), (2, A 11 10), (5, A 14 10), (8, A 17 10), (11, A 20 10), (16, A 5 6), (17, A 6 6), (18, A 7 6), (19, A 8 6)] [0, 1, 3, 0, 8, 31, 0, 64, 255, 0, 512, 2047, 0, 0, 0, 0, 65535, 131071, 262143, 524287]) (.seq (.draw [(0, A 5 4), (1, A 7 4), (3, A 6 4), (4, A 8 4), (9, A 5 4), (10, A 8 4), (12, A 6 4), (13, A 7 4), (2, A 23 10), (5, A 26 10), (6, A 27 10), (7, A 28 10), (8, A 29 10), (11, A 32 10), (14, A 35 10), (15, A 36 10), (16, A 37 10), (17, A 38 0), (18, A 4 6)] [0, 0, 3, 0, 0, 31, 63, 127, 255, 0, 0, 2047, 0, 0, 16383, 32767, 65535, 131071, 262143]) .leaf)))
 (Eq.mpr (by kernel_rfl) h)

theorem Box_Hull_vc (p0 : BoxV) (p1 : BoxV) (V : View) (R : Value → View → Prop) 
 (h :
 CallV Tryz.prog 133 #[p0.re.val, p1.re.val] V fun v V1 => ∃ r1 : SpV, v = r1.val ∧
 CallV Tryz.prog 133 #[p0.im.val, p1.im.val] V1 fun v V2 => ∃ r2 : SpV, v = r2.val ∧
 R ((BoxV.mk r1 r2).val) V2) :
 CallV Tryz.prog 53 #[p0.val, p1.val] V R :=
 calls_of_vc (Shp := Shp) hmixed Tryz.func53 (c := Tryz.f53.body.getD .skip) (args := [p0.val, p1.val]) (by kernel_rfl)
 (.seq (.reg [A 2 3, A 3 3, A 4 3]) (.seq (.draw [(0, A 5 7), (1, A 2 4), (2, A 7 7), (3, A 3 4), (5, A 10 7), (6, A 2 4), (7, A 12 7), (8, A 3 4), (4, A 9 10), (9, A 14 10), (10, A 15 0), (11, A 4 6)] [0, 1, 0, 4, 15, 0, 32, 0, 128, 511, 1023, 2047]) .leaf))
 (Eq.mpr (by kernel_rfl) h)

theorem Box_In_vc (p0 : BoxV) (p1 : BoxV) (V : View) (R : Value → View → Prop) 
 (h :
 CallV Tryz.prog 63 #[p0.re.val, p1.re.val] V fun v V1 => ∃ r1 : Bool, v = .bool r1 ∧
 (r1 = true →
 CallV Tryz.prog 63 #[p0.im.val, p1.im.val] V1 fun v V2 => ∃ r2 : Bool, v = .bool r2 ∧
 R (.bool r2) V2) ∧
 (r1 = false →
 R (.bool false) V1)) :
 CallV Tryz.prog 51 #[p0.val, p1.val] V R :=
 calls_of_vc (Shp := Shp) hmixed Tryz.func51 (c := Tryz.f51.body.getD .skip) (args := [p0.val, p1.val]) (by kernel_rfl)
 (.seq (.reg [A 2 3, A 3 3, A 4 9]) (.seq (.reg [A 5 7, A 2 4, A 7 7, A 3 4, A 9 10, ⟨10, 2, true⟩, A 11 7, A 2 4, A 13 7, A 3 4, A 15 10, A 16 20, A 4 2]) .leaf))
 (Eq.mpr (by kernel_rfl) h)

theorem Box_Meet_vc (p0 : BoxV) (p1 : BoxV) (V : View) (R : Value → View → Prop) 
 (h :
 CallV Tryz.prog 126 #[p0.re.val, p1.re.val] V fun v V1 => ∃ (r1 : SpV) (r2 : Bool), v = .tuple #[r1.val, .bool r2] ∧
 CallV Tryz.prog 126 #[p0.im.val, p1.im.val] V1 fun v V2 => ∃ (r3 : SpV) (r4 : Bool), v = .tuple #[r3.val, .bool r4] ∧
 ((!r2) = true →
 R (.tuple #[(BoxV.mk (SpV.mk 0 0) (SpV.mk 0 0)).val, .bool false]) V2) ∧
 ((!r2) = false →
 ((!r4) = true →
 R (.tuple #[(BoxV.mk (SpV.mk 0 0) (SpV.mk 0 0)).val, .bool false]) V2) ∧
 ((!r4) = false →
 R (.tuple #[(BoxV.mk r1 r3).val, .bool true]) V2))) :
 CallV Tryz.prog 45 #[p0.val, p1.val] V R :=
 calls_of_vc (Shp := Shp) hmixed Tryz.func45 (c := Tryz.f45.body.getD .skip) (args := [p0.val, p1.val]) (by kernel_rfl)
 (.seq (.reg [A 2 3, A 3 3, A 4 3, A 5 9]) (.seq (.reg [A 11 7, A 2 4, A 13 7, A 3 4, A 15 10, A 10 2, A 16 0, A 17 0, A 6 3, A 6 6, A 7 2]) (.seq (.reg [A 19 7, A 2 4, A 21 7, A 3 4, A 23 10, A 18 2, A 24 0, A 25 0, A 8 3, A 8 6, A 9 2]) (.seq (.seq (.reg [A 26 2, A 27 20, ⟨28, 2, true⟩, A 29 2, A 30 20, A 31 20]) (.cond (.seq (.reg [A 32 0, A 4 6, A 5 9]) .leaf) .leaf)) (.seq (.reg [A 6 4, A 8 4, A 35 0, A 4 6, A 5 9]) .leaf)))))
 (Eq.mpr (by kernel_rfl) h)

end Go.Proofs.YtkibfmnkkiakoaaGreat
