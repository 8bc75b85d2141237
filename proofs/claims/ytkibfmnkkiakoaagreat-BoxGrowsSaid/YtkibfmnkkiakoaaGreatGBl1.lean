/- Part of the proof; it has the parts GBl1. -/
import Derived.Test.YtkibfmnkkiakoaaGreatGBl2
set_option maxRecDepth 100000
set_option maxHeartbeats 4000000
namespace Go.Proofs.YtkibfmnkkiakoaaGreat
open Go Go.Vc Go.Proofs
open Go.IntKind (i8 i16 i32 i64 u8 u16 u32 u64)

theorem ref2_end_vc (p0 : Nat) (V : View) (R : Value → View → Prop) 
 (h :
 ((FloatKind.f64.format.order p0 0 == some .eq) = true →
 R (.float .f64 0) V) ∧
 ((FloatKind.f64.format.order p0 0 == some .eq) = false →
 R (.float .f64 p0) V)) :
 CallV Tryz.prog 150 #[.float .f64 p0] V R :=
 calls_of_vc (Shp := Shp) hmixed Tryz.func150 (c := Tryz.f150.body.getD .skip) (args := [.float .f64 p0]) (by kernel_rfl)
 (.seq (.reg [A 2 2]) (.seq (.seq (.reg [A 3 2, A 4 0]) (.cond (.seq (.reg [A 2 2]) .leaf) .leaf)) (.seq (.reg [A 5 2, A 2 2]) .leaf)))
 (Eq.mpr (by kernel_rfl) h)

theorem ref2_MakeSpan_vc (p0 : Nat) (p1 : Nat) (V : View) (R : Value → View → Prop) 
 (h :
 CallV Tryz.prog 206 #[.float .f64 p0] V fun v V1 => ∃ r1 : Bool, v = .bool r1 ∧
 (r1 = true →
 R (.tuple #[(SpV.mk 0 0).val, .int .i64 1]) V1) ∧
 (r1 = false →
 CallV Tryz.prog 206 #[.float .f64 p1] V1 fun v V2 => ∃ r2 : Bool, v = .bool r2 ∧
 (r2 = true →
 R (.tuple #[(SpV.mk 0 0).val, .int .i64 1]) V2) ∧
 (r2 = false →
 CallV Tryz.prog 200 #[.float .f64 p0, .int .i64 1] V2 fun v V3 => ∃ r3 : Bool, v = .bool r3 ∧
 (r3 = true →
 R (.tuple #[(SpV.mk 0 0).val, .int .i64 1]) V3) ∧
 (r3 = false →
 CallV Tryz.prog 200 #[.float .f64 p1, .int .i64 (-1)] V3 fun v V4 => ∃ r4 : Bool, v = .bool r4 ∧
 (r4 = true →
 R (.tuple #[(SpV.mk 0 0).val, .int .i64 1]) V4) ∧
 (r4 = false →
 ((FloatKind.f64.format.order p0 p1 == some .gt) = true →
 R (.tuple #[(SpV.mk 0 0).val, .int .i64 7]) V4) ∧
 ((FloatKind.f64.format.order p0 p1 == some .gt) = false →
 CallV Tryz.prog 150 #[.float .f64 p0] V4 fun v V5 => ∃ r5 : Nat, v = .float .f64 r5 ∧
 CallV Tryz.prog 150 #[.float .f64 p1] V5 fun v V6 => ∃ r6 : Nat, v = .float .f64 r6 ∧
 R (.tuple #[(SpV.mk r5 r6).val, .int .i64 0]) V6)))))) :
 CallV Tryz.prog 152 #[.float .f64 p0, .float .f64 p1] V R :=
 calls_of_vc (Shp := Shp) hmixed Tryz.func152 (c := Tryz.f152.body.getD .skip) (args := [.float .f64 p0, .float .f64 p1]) (by kernel_rfl)
 (.seq (.reg [A 4 3, A 5 2]) (.seq (.seq (.reg [A 6 2, A 7 10, ⟨8, 2, true⟩, A 9 2, A 10 10, A 11 20, ⟨12, 2, true⟩, A 13 2, A 14 10, A 15 20, ⟨16, 2, true⟩, A 17 2, A 18 10, A 19 20]) (.cond (.seq (.reg [A 20 0, A 4 6, A 5 2]) .leaf) .leaf)) (.seq (.seq (.reg [A 21 2, A 22 2, A 23 0]) (.cond (.seq (.reg [A 24 0, A 4 6, A 5 2]) .leaf) .leaf)) (.seq (.reg [A 25 2, A 26 10, A 27 2, A 28 10, A 29 0, A 4 6, A 5 2]) .leaf))))
 (Eq.mpr (by kernel_rfl) h)

theorem law2_Ends_floats_vc (p0 : EndsV) (V : View) (R : Value → View → Prop) 
 (h :
 ∃ e1 : Nat, ExtVal Tryz.prog 221 #[.int .u64 p0.lo] (.float .f64 e1) ∧
 ∃ e2 : Nat, ExtVal Tryz.prog 221 #[.int .u64 p0.hi] (.float .f64 e2) ∧
 ((FloatKind.f64.format.order e1 e2 == some .gt) = true →
 R (.tuple #[.float .f64 e2, .float .f64 e1]) V) ∧
 ((FloatKind.f64.format.order e1 e2 == some .gt) = false →
 R (.tuple #[.float .f64 e1, .float .f64 e2]) V)) :
 CallV Tryz.prog 151 #[p0.val] V R :=
 calls_of_vc (Shp := Shp) hmixed Tryz.func151 (c := Tryz.f151.body.getD .skip) (args := [p0.val]) (by kernel_rfl)
 (.seq (.reg [A 1 3, A 2 2, A 3 2]) (.seq (.draw [(0, A 6 7), (1, A 1 4), (3, A 9 7), (4, A 1 4), (2, A 8 12), (5, A 11 12), (6, A 4 2), (7, A 5 2)] [0, 1, 3, 0, 8, 31, 63, 127]) (.seq (.seq (.reg [A 12 2, A 13 2, A 14 0]) (.cond (.reg [A 15 2, A 16 2, A 4 2, A 5 2]) .leaf)) (.seq (.reg [A 17 2, A 18 2, A 2 2, A 3 2]) .leaf))))
 (Eq.mpr (by kernel_rfl) h)

theorem law2_Ends_span_vc (p0 : EndsV) (V : View) (R : Value → View → Prop) 
 (h :
 CallV Tryz.prog 151 #[p0.val] V fun v V1 => ∃ (r1 : Nat) (r2 : Nat), v = .tuple #[.float .f64 r1, .float .f64 r2] ∧
 CallV Tryz.prog 152 #[.float .f64 r1, .float .f64 r2] V1 fun v V2 => ∃ (r3 : SpV) (r4 : Int), v = .tuple #[r3.val, .int .i64 r4] ∧
 (((r4 : Int) != 0) = true →
 R (.tuple #[(SpV.mk 0 0).val, (SpV.mk 0 0).val, .bool false]) V2) ∧
 (((r4 : Int) != 0) = false →
 CallV Tryz.prog 153 #[.float .f64 r1, .float .f64 r2] V2 fun v V3 => ∃ (r5 : SpV) (r6 : Int), v = .tuple #[r5.val, .int .i64 r6] ∧
 R (.tuple #[r5.val, r3.val, .bool true]) V3)) :
 CallV Tryz.prog 64 #[p0.val] V R :=
 calls_of_vc (Shp := Shp) hmixed Tryz.func64 (c := Tryz.f64.body.getD .skip) (args := [p0.val]) (by kernel_rfl)
 (.seq (.reg [A 1 3, A 2 3, A 3 3, A 4 9]) (.seq (.reg [A 1 4, A 13 10, A 11 2, A 14 0, A 15 0, A 5 2, A 6 2]) (.seq (.reg [A 17 2, A 18 2, A 19 10, A 16 2, A 20 0, A 21 0, A 7 3, A 7 6, A 8 2]) (.seq (.seq (.reg [A 22 2, A 23 0]) (.cond (.seq (.reg [A 24 0, A 25 0, A 2 6, A 3 6, A 4 9]) .leaf) .leaf)) (.seq (.reg [A 27 2, A 28 2, A 29 10, A 26 2, A 30 0, A 31 0, A 9 3, A 9 6, A 10 2]) (.seq (.draw [(0, A 9 4), (1, A 7 4), (2, A 2 6), (3, A 3 6), (4, A 4 9)] [0, 0, 1, 7, 15]) .leaf))))))
 (Eq.mpr (by kernel_rfl) h)

theorem law2_awake_vc  (V : View) (R : Value → View → Prop) 
 (h :
 CallV Tryz.prog 95 #[.complex .f64 (CxV.mk 4607182418800017408 0).re (CxV.mk 4607182418800017408 0).im, .complex .f64 (CxV.mk 4611686018427387904 4607182418800017408).re (CxV.mk 4611686018427387904 4607182418800017408).im] V fun v V1 => ∃ (r1 : BoxV) (r2 : Int), v = .tuple #[r1.val, .int .i64 r2] ∧
 CallV Tryz.prog 26 #[r1.val] V1 fun v V2 => ∃ (r3 : BoxV) (r4 : Int), v = .tuple #[r3.val, .int .i64 r4] ∧
 CallV Tryz.prog 41 #[r1.val, r1.val] V2 fun v V3 => ∃ r5 : BoxV, v = r5.val ∧
 (((r2 : Int) == 0) = true →
 (((r4 : Int) == 0) = true →
 CallV Tryz.prog 58 #[r5.val] V3 fun v V4 => ∃ r6 : CxV, v = .complex .f64 r6.re r6.im ∧
 (((FloatKind.f64.format.order r6.re 0 == some .eq) && (FloatKind.f64.format.order r6.im 0 == some .eq)) = true →
 CallV Tryz.prog 59 #[r5.val] V4 fun v V5 => ∃ r7 : CxV, v = .complex .f64 r7.re r7.im ∧
 (((FloatKind.f64.format.order r7.re 4616189618054758400 == some .eq) && (FloatKind.f64.format.order r7.im 4616189618054758400 == some .eq)) = true →
 CallV Tryz.prog 58 #[r3.val] V5 fun v V6 => ∃ r8 : CxV, v = .complex .f64 r8.re r8.im ∧
 ((FloatKind.f64.format.order r8.im 13826050856027422720 == some .eq) = true →
 CallV Tryz.prog 59 #[r3.val] V6 fun v V7 => ∃ r9 : CxV, v = .complex .f64 r9.re r9.im ∧
 ((FloatKind.f64.format.order r9.re 4607182418800017408 == some .eq) = true →
 CallV Tryz.prog 30 #[r1.val] V7 fun v V8 => ∃ r10 : Bool, v = .bool r10 ∧
 (r10 = true →
 CallV Tryz.prog 30 #[r5.val] V8 fun v V9 => ∃ r11 : Bool, v = .bool r11 ∧
 R (.bool (!r11)) V9) ∧
 (r10 = false →
 R (.bool false) V8)) ∧
 ((FloatKind.f64.format.order r9.re 4607182418800017408 == some .eq) = false →
 R (.bool false) V7)) ∧
 ((FloatKind.f64.format.order r8.im 13826050856027422720 == some .eq) = false →
 R (.bool false) V6)) ∧
 (((FloatKind.f64.format.order r7.re 4616189618054758400 == some .eq) && (FloatKind.f64.format.order r7.im 4616189618054758400 == some .eq)) = false →
 R (.bool false) V5)) ∧
 (((FloatKind.f64.format.order r6.re 0 == some .eq) && (FloatKind.f64.format.order r6.im 0 == some .eq)) = false →
 R (.bool false) V4)) ∧
 (((r4 : Int) == 0) = false →
 R (.bool false) V3)) ∧
 (((r2 : Int) == 0) = false →
 R (.bool false) V3)) :
 CallV Tryz.prog 15 #[] V R :=
 calls_of_vc (Shp := Shp) hmixed Tryz.func15 (c := Tryz.f15.body.getD .skip) (args := []) (by kernel_rfl)
 (.seq (.reg [A 0 9]) (.seq (.reg [A 7 10, A 6 2, A 8 0, A 9 0, A 1 3, A 1 6, A 2 2]) (.seq (.reg [A 1 4, A 12 10, A 10 2, A 13 0, A 14 0, A 3 3, A 3 6, A 4 2]) (.seq (.reg [A 1 4, A 1 4, A 17 10, A 5 3, A 5 6]) (.seq (.reg [A 18 2, A 19 0, ⟨20, 2, true⟩, A 21 2, A 22 0, A 23 20, ⟨24, 2, true⟩, A 5 4, A 26 10, A 27 0, A 28 20, ⟨29, 2, true⟩, A 5 4, A 31 10, A 32 0, A 33 20, ⟨34, 2, true⟩, A 3 4, A 36 10, A 37 0, A 38 0, A 39 20, ⟨40, 2, true⟩, A 3 4, A 42 10, A 43 0, A 44 0, A 45 20, ⟨46, 2, true⟩, A 1 4, A 48 10, A 49 20, ⟨50, 2, true⟩, A 5 4, A 52 10, A 53 20, A 54 20, A 0 2]) .leaf)))))
 (Eq.mpr (by kernel_rfl) h)

end Go.Proofs.YtkibfmnkkiakoaaGreat
