/- Part of the proof; it has the parts GBl1. -/
import Derived.Test.YtcapadojlaojkaaFNum1
set_option maxRecDepth 100000
set_option maxHeartbeats 4000000
namespace Go.Proofs.Ytcapadojlaojkaa
open Go Go.Vc Go.Proofs

/-- waveport/waveportref02.end -/
theorem ref2_end_vc (p0 : Nat) (V : View) (R : Value → View → Prop) 
  (h :
    ((FloatKind.f64.format.order p0 0 == some .eq) = true →
      R (.float .f64 0) V) ∧
    ((FloatKind.f64.format.order p0 0 == some .eq) = false →
      R (.float .f64 p0) V)) :
  CallV Try.prog 54 #[.float .f64 p0] V R :=
  calls_of_vc (Shp := Shp) hmixed Try.func54 (c := Try.f54.body.getD .skip) (args := [.float .f64 p0]) (by kernel_rfl)
    (.seq (.reg [⟨2, 2, false⟩]) (.seq (.seq (.reg [⟨3, 2, false⟩, ⟨4, 0, false⟩]) (.cond (.seq (.reg [⟨2, 2, false⟩]) .leaf) .leaf)) (.seq (.reg [⟨5, 2, false⟩, ⟨2, 2, false⟩]) .leaf)))
    (Eq.mpr (by kernel_rfl) h)

/-- waveport/waveportref02.MakeSpan -/
theorem ref2_MakeSpan_vc (p0 : Nat) (p1 : Nat) (V : View) (R : Value → View → Prop) 
  (h :
    CallV Try.prog 51 #[.float .f64 p0] V fun v V1 => ∃ r1 : Bool, v = .bool r1 ∧ -- math.IsNaN
    (r1 = true →
    R (.tuple #[(SpV.mk 0 0).val, .int .i64 1]) V1) ∧
    (r1 = false →
    CallV Try.prog 51 #[.float .f64 p1] V1 fun v V2 => ∃ r2 : Bool, v = .bool r2 ∧ -- math.IsNaN
    (r2 = true →
    R (.tuple #[(SpV.mk 0 0).val, .int .i64 1]) V2) ∧
    (r2 = false →
    CallV Try.prog 52 #[.float .f64 p0, .int .i64 1] V2 fun v V3 => ∃ r3 : Bool, v = .bool r3 ∧ -- math.IsInf
    (r3 = true →
    R (.tuple #[(SpV.mk 0 0).val, .int .i64 1]) V3) ∧
    (r3 = false →
    CallV Try.prog 52 #[.float .f64 p1, .int .i64 (-1)] V3 fun v V4 => ∃ r4 : Bool, v = .bool r4 ∧ -- math.IsInf
    (r4 = true →
      R (.tuple #[(SpV.mk 0 0).val, .int .i64 1]) V4) ∧
    (r4 = false →
      ((FloatKind.f64.format.order p0 p1 == some .gt) = true →
      R (.tuple #[(SpV.mk 0 0).val, .int .i64 7]) V4) ∧
    ((FloatKind.f64.format.order p0 p1 == some .gt) = false →
      CallV Try.prog 54 #[.float .f64 p0] V4 fun v V5 => ∃ r5 : Nat, v = .float .f64 r5 ∧ -- waveportref02.end
    CallV Try.prog 54 #[.float .f64 p1] V5 fun v V6 => ∃ r6 : Nat, v = .float .f64 r6 ∧ -- waveportref02.end
    R (.tuple #[(SpV.mk r5 r6).val, .int .i64 0]) V6)))))) :
  CallV Try.prog 11 #[.float .f64 p0, .float .f64 p1] V R :=
  calls_of_vc (Shp := Shp) hmixed Try.func11 (c := Try.f11.body.getD .skip) (args := [.float .f64 p0, .float .f64 p1]) (by kernel_rfl)
    (.seq (.reg [⟨4, 3, false⟩, ⟨5, 2, false⟩]) (.seq (.seq (.reg [⟨6, 2, false⟩, ⟨7, 10, false⟩, ⟨8, 2, true⟩, ⟨9, 2, false⟩, ⟨10, 10, false⟩, ⟨11, 20, false⟩, ⟨12, 2, true⟩, ⟨13, 2, false⟩, ⟨14, 10, false⟩, ⟨15, 20, false⟩, ⟨16, 2, true⟩, ⟨17, 2, false⟩, ⟨18, 10, false⟩, ⟨19, 20, false⟩]) (.cond (.seq (.reg [⟨20, 0, false⟩, ⟨4, 6, false⟩, ⟨5, 2, false⟩]) .leaf) .leaf)) (.seq (.seq (.reg [⟨21, 2, false⟩, ⟨22, 2, false⟩, ⟨23, 0, false⟩]) (.cond (.seq (.reg [⟨24, 0, false⟩, ⟨4, 6, false⟩, ⟨5, 2, false⟩]) .leaf) .leaf)) (.seq (.reg [⟨25, 2, false⟩, ⟨26, 10, false⟩, ⟨27, 2, false⟩, ⟨28, 10, false⟩, ⟨29, 0, false⟩, ⟨4, 6, false⟩, ⟨5, 2, false⟩]) .leaf))))
    (Eq.mpr (by kernel_rfl) h)

/-- (waveport/waveportlaw02.Ends).floats -/
theorem law2_Ends_floats_vc (p0 : EndsV) (V : View) (R : Value → View → Prop) 
  (h :
    ∃ e1 : Nat, ExtVal Try.prog 9 #[.int .u64 p0.lo] (.float .f64 e1) ∧ -- math.Float64frombits
    ∃ e2 : Nat, ExtVal Try.prog 9 #[.int .u64 p0.hi] (.float .f64 e2) ∧ -- math.Float64frombits
    ((FloatKind.f64.format.order e1 e2 == some .gt) = true →
      R (.tuple #[.float .f64 e2, .float .f64 e1]) V) ∧
    ((FloatKind.f64.format.order e1 e2 == some .gt) = false →
      R (.tuple #[.float .f64 e1, .float .f64 e2]) V)) :
  CallV Try.prog 57 #[p0.val] V R :=
  calls_of_vc (Shp := Shp) hmixed Try.func57 (c := Try.f57.body.getD .skip) (args := [p0.val]) (by kernel_rfl)
    (.seq (.reg [⟨1, 3, false⟩, ⟨2, 2, false⟩, ⟨3, 2, false⟩]) (.seq (.draw [(0, ⟨6, 7, false⟩), (1, ⟨1, 4, false⟩), (3, ⟨9, 7, false⟩), (4, ⟨1, 4, false⟩), (2, ⟨8, 12, false⟩), (5, ⟨11, 12, false⟩), (6, ⟨4, 2, false⟩), (7, ⟨5, 2, false⟩)] [0, 1, 3, 0, 8, 31, 63, 127]) (.seq (.seq (.reg [⟨12, 2, false⟩, ⟨13, 2, false⟩, ⟨14, 0, false⟩]) (.cond (.reg [⟨15, 2, false⟩, ⟨16, 2, false⟩, ⟨4, 2, false⟩, ⟨5, 2, false⟩]) .leaf)) (.seq (.reg [⟨17, 2, false⟩, ⟨18, 2, false⟩, ⟨2, 2, false⟩, ⟨3, 2, false⟩]) .leaf))))
    (Eq.mpr (by kernel_rfl) h)

/-- (waveport/waveportlaw02.Ends).span -/
theorem law2_Ends_span_vc (p0 : EndsV) (V : View) (R : Value → View → Prop) 
  (h :
    CallV Try.prog 57 #[p0.val] V fun v V1 => ∃ (r1 : Nat) (r2 : Nat), v = .tuple #[.float .f64 r1, .float .f64 r2] ∧ -- (waveportlaw02.Ends).floats
    CallV Try.prog 11 #[.float .f64 r1, .float .f64 r2] V1 fun v V2 => ∃ (r3 : SpV) (r4 : Int), v = .tuple #[r3.val, .int .i64 r4] ∧ -- waveportref02.MakeSpan
    (((r4 : Int) != 0) = true →
      R (.tuple #[(SpV.mk 0 0).val, (SpV.mk 0 0).val, .bool false]) V2) ∧
    (((r4 : Int) != 0) = false →
      CallV Try.prog 10 #[.float .f64 r1, .float .f64 r2] V2 fun v V3 => ∃ (r5 : SpV) (r6 : Int), v = .tuple #[r5.val, .int .i64 r6] ∧ -- box.MakeSpan
    R (.tuple #[r5.val, r3.val, .bool true]) V3)) :
  CallV Try.prog 13 #[p0.val] V R :=
  calls_of_vc (Shp := Shp) hmixed Try.func13 (c := Try.f13.body.getD .skip) (args := [p0.val]) (by kernel_rfl)
    (.seq (.reg [⟨1, 3, false⟩, ⟨2, 3, false⟩, ⟨3, 3, false⟩, ⟨4, 9, false⟩]) (.seq (.reg [⟨1, 4, false⟩, ⟨13, 10, false⟩, ⟨11, 2, false⟩, ⟨14, 0, false⟩, ⟨15, 0, false⟩, ⟨5, 2, false⟩, ⟨6, 2, false⟩]) (.seq (.reg [⟨17, 2, false⟩, ⟨18, 2, false⟩, ⟨19, 10, false⟩, ⟨16, 2, false⟩, ⟨20, 0, false⟩, ⟨21, 0, false⟩, ⟨7, 3, false⟩, ⟨7, 6, false⟩, ⟨8, 2, false⟩]) (.seq (.seq (.reg [⟨22, 2, false⟩, ⟨23, 0, false⟩]) (.cond (.seq (.reg [⟨24, 0, false⟩, ⟨25, 0, false⟩, ⟨2, 6, false⟩, ⟨3, 6, false⟩, ⟨4, 9, false⟩]) .leaf) .leaf)) (.seq (.reg [⟨27, 2, false⟩, ⟨28, 2, false⟩, ⟨29, 10, false⟩, ⟨26, 2, false⟩, ⟨30, 0, false⟩, ⟨31, 0, false⟩, ⟨9, 3, false⟩, ⟨9, 6, false⟩, ⟨10, 2, false⟩]) (.seq (.draw [(0, ⟨9, 4, false⟩), (1, ⟨7, 4, false⟩), (2, ⟨2, 6, false⟩), (3, ⟨3, 6, false⟩), (4, ⟨4, 9, false⟩)] [0, 0, 1, 7, 15]) .leaf))))))
    (Eq.mpr (by kernel_rfl) h)

/-- waveport/waveportlaw02.awake -/
theorem law2_awake_vc  (V : View) (R : Value → View → Prop) 
  (h :
    CallV Try.prog 45 #[.complex .f64 (CxV.mk 4607182418800017408 0).re (CxV.mk 4607182418800017408 0).im, .complex .f64 (CxV.mk 4611686018427387904 4607182418800017408).re (CxV.mk 4611686018427387904 4607182418800017408).im] V fun v V1 => ∃ (r1 : BoxV) (r2 : Int), v = .tuple #[r1.val, .int .i64 r2] ∧ -- box.Make
    CallV Try.prog 46 #[r1.val] V1 fun v V2 => ∃ (r3 : BoxV) (r4 : Int), v = .tuple #[r3.val, .int .i64 r4] ∧ -- (box.Box).Inv
    CallV Try.prog 47 #[r1.val, r1.val] V2 fun v V3 => ∃ r5 : BoxV, v = r5.val ∧ -- (box.Box).Mul
    (((r2 : Int) == 0) = true →
    (((r4 : Int) == 0) = true →
    CallV Try.prog 48 #[r5.val] V3 fun v V4 => ∃ r6 : CxV, v = .complex .f64 r6.re r6.im ∧ -- (box.Box).Lo
    (((FloatKind.f64.format.order r6.re 0 == some .eq) && (FloatKind.f64.format.order r6.im 0 == some .eq)) = true →
    CallV Try.prog 49 #[r5.val] V4 fun v V5 => ∃ r7 : CxV, v = .complex .f64 r7.re r7.im ∧ -- (box.Box).Hi
    (((FloatKind.f64.format.order r7.re 4616189618054758400 == some .eq) && (FloatKind.f64.format.order r7.im 4616189618054758400 == some .eq)) = true →
    CallV Try.prog 48 #[r3.val] V5 fun v V6 => ∃ r8 : CxV, v = .complex .f64 r8.re r8.im ∧ -- (box.Box).Lo
    ((FloatKind.f64.format.order r8.im 13826050856027422720 == some .eq) = true →
    CallV Try.prog 49 #[r3.val] V6 fun v V7 => ∃ r9 : CxV, v = .complex .f64 r9.re r9.im ∧ -- (box.Box).Hi
    ((FloatKind.f64.format.order r9.re 4607182418800017408 == some .eq) = true →
    CallV Try.prog 50 #[r1.val] V7 fun v V8 => ∃ r10 : Bool, v = .bool r10 ∧ -- (box.Box).Clear
    (r10 = true →
    CallV Try.prog 50 #[r5.val] V8 fun v V9 => ∃ r11 : Bool, v = .bool r11 ∧ -- (box.Box).Clear
    R (.bool (!r11)) V9) ∧
    (r10 = false →
    R (.bool false) V8)) ∧
    ((FloatKind.f64.format.order r9.re 4607182418800017408 == some .eq) = false →
    R (.bool false) V7)) ∧
    ((FloatKind.f64.format.order r8.im 13826050856027422720 == some .eq) = false →
    R (.bool false) V6)) ∧
    (((FloatKind.f64.format.order r7.re 4616189618054758400 == some .eq) && (FloatKind.f64.format.order r7.im 4616189618054758400 == some .eq)) = false →
    R (.bool false) V5)) ∧
    (((FloatKind.f64.format.order r6.re 0 == some .eq) && (FloatKind.f64.format.order r6.im 0 == some .eq)) = false →
    R (.bool false) V4)) ∧
    (((r4 : Int) == 0) = false →
    R (.bool false) V3)) ∧
    (((r2 : Int) == 0) = false →
    R (.bool false) V3)) :
  CallV Try.prog 8 #[] V R :=
  calls_of_vc (Shp := Shp) hmixed Try.func8 (c := Try.f8.body.getD .skip) (args := []) (by kernel_rfl)
    (.seq (.reg [⟨0, 9, false⟩]) (.seq (.reg [⟨7, 10, false⟩, ⟨6, 2, false⟩, ⟨8, 0, false⟩, ⟨9, 0, false⟩, ⟨1, 3, false⟩, ⟨1, 6, false⟩, ⟨2, 2, false⟩]) (.seq (.reg [⟨1, 4, false⟩, ⟨12, 10, false⟩, ⟨10, 2, false⟩, ⟨13, 0, false⟩, ⟨14, 0, false⟩, ⟨3, 3, false⟩, ⟨3, 6, false⟩, ⟨4, 2, false⟩]) (.seq (.reg [⟨1, 4, false⟩, ⟨1, 4, false⟩, ⟨17, 10, false⟩, ⟨5, 3, false⟩, ⟨5, 6, false⟩]) (.seq (.reg [⟨18, 2, false⟩, ⟨19, 0, false⟩, ⟨20, 2, true⟩, ⟨21, 2, false⟩, ⟨22, 0, false⟩, ⟨23, 20, false⟩, ⟨24, 2, true⟩, ⟨5, 4, false⟩, ⟨26, 10, false⟩, ⟨27, 0, false⟩, ⟨28, 20, false⟩, ⟨29, 2, true⟩, ⟨5, 4, false⟩, ⟨31, 10, false⟩, ⟨32, 0, false⟩, ⟨33, 20, false⟩, ⟨34, 2, true⟩, ⟨3, 4, false⟩, ⟨36, 10, false⟩, ⟨37, 0, false⟩, ⟨38, 0, false⟩, ⟨39, 20, false⟩, ⟨40, 2, true⟩, ⟨3, 4, false⟩, ⟨42, 10, false⟩, ⟨43, 0, false⟩, ⟨44, 0, false⟩, ⟨45, 20, false⟩, ⟨46, 2, true⟩, ⟨1, 4, false⟩, ⟨48, 10, false⟩, ⟨49, 20, false⟩, ⟨50, 2, true⟩, ⟨5, 4, false⟩, ⟨52, 10, false⟩, ⟨53, 20, false⟩, ⟨54, 20, false⟩, ⟨0, 2, false⟩]) .leaf)))))
    (Eq.mpr (by kernel_rfl) h)

/-- (waveport/box.Span).Below -/
theorem Span_Below_vc (p0 : SpV) (p1 : SpV) (V : View) (R : Value → View → Prop) 
  (h :
    ((FloatKind.f64.format.order p0.hi p1.lo == some .lt) = true →
      R (.int .i64 1) V) ∧
    ((FloatKind.f64.format.order p0.hi p1.lo == some .lt) = false →
      (((FloatKind.f64.format.order p0.lo p1.hi == some .gt) || (FloatKind.f64.format.order p0.lo p1.hi == some .eq)) = true →
        R (.int .i64 2) V) ∧
      (((FloatKind.f64.format.order p0.lo p1.hi == some .gt) || (FloatKind.f64.format.order p0.lo p1.hi == some .eq)) = false →
        R (.int .i64 0) V))) :
  CallV Try.prog 14 #[p0.val, p1.val] V R :=
  calls_of_vc (Shp := Shp) hmixed Try.func14 (c := Try.f14.body.getD .skip) (args := [p0.val, p1.val]) (by kernel_rfl)
    (.seq (.reg [⟨2, 3, false⟩, ⟨3, 3, false⟩, ⟨4, 2, false⟩]) (.seq (.block (.seq (.reg [⟨6, 7, false⟩, ⟨2, 4, false⟩, ⟨8, 7, false⟩, ⟨3, 4, false⟩, ⟨10, 0, false⟩, ⟨5, 2, false⟩]) (.cond (.seq (.reg [⟨4, 2, false⟩]) .leaf) (.seq (.reg [⟨12, 7, false⟩, ⟨2, 4, false⟩, ⟨14, 7, false⟩, ⟨3, 4, false⟩, ⟨16, 0, false⟩, ⟨11, 2, false⟩]) (.cond (.seq (.reg [⟨4, 2, false⟩]) .leaf) .leaf))))) (.seq (.reg [⟨4, 2, false⟩]) .leaf)))
    (Eq.mpr (by kernel_rfl) h)

/-- (waveport/waveportref02.Span).Below -/
theorem ref2_Span_Below_vc (p0 : SpV) (p1 : SpV) (V : View) (R : Value → View → Prop) 
  (h :
    ((FloatKind.f64.format.order p0.hi p1.lo == some .lt) = true →
      R (.int .i64 1) V) ∧
    ((FloatKind.f64.format.order p0.hi p1.lo == some .lt) = false →
      (((FloatKind.f64.format.order p0.lo p1.hi == some .gt) || (FloatKind.f64.format.order p0.lo p1.hi == some .eq)) = true →
      R (.int .i64 2) V) ∧
    (((FloatKind.f64.format.order p0.lo p1.hi == some .gt) || (FloatKind.f64.format.order p0.lo p1.hi == some .eq)) = false →
      R (.int .i64 0) V))) :
  CallV Try.prog 15 #[p0.val, p1.val] V R :=
  calls_of_vc (Shp := Shp) hmixed Try.func15 (c := Try.f15.body.getD .skip) (args := [p0.val, p1.val]) (by kernel_rfl)
    (.seq (.reg [⟨2, 3, false⟩, ⟨3, 3, false⟩, ⟨4, 2, false⟩]) (.seq (.seq (.reg [⟨5, 7, false⟩, ⟨2, 4, false⟩, ⟨7, 7, false⟩, ⟨3, 4, false⟩, ⟨9, 0, false⟩]) (.cond (.seq (.reg [⟨4, 2, false⟩]) .leaf) .leaf)) (.seq (.seq (.reg [⟨10, 7, false⟩, ⟨2, 4, false⟩, ⟨12, 7, false⟩, ⟨3, 4, false⟩, ⟨14, 0, false⟩]) (.cond (.seq (.reg [⟨4, 2, false⟩]) .leaf) .leaf)) (.seq (.reg [⟨4, 2, false⟩]) .leaf))))
    (Eq.mpr (by kernel_rfl) h)

/-- (waveport/waveportref02.Span).In -/
theorem ref2_Span_In_vc (p0 : SpV) (p1 : SpV) (V : View) (R : Value → View → Prop) 
  (h :
    (((FloatKind.f64.format.order p1.lo p0.lo == some .lt) || (FloatKind.f64.format.order p1.lo p0.lo == some .eq)) = true →
    R (.bool ((FloatKind.f64.format.order p0.hi p1.hi == some .lt) || (FloatKind.f64.format.order p0.hi p1.hi == some .eq))) V) ∧
    (((FloatKind.f64.format.order p1.lo p0.lo == some .lt) || (FloatKind.f64.format.order p1.lo p0.lo == some .eq)) = false →
    R (.bool false) V)) :
  CallV Try.prog 17 #[p0.val, p1.val] V R :=
  calls_of_vc (Shp := Shp) hmixed Try.func17 (c := Try.f17.body.getD .skip) (args := [p0.val, p1.val]) (by kernel_rfl)
    (.seq (.reg [⟨2, 3, false⟩, ⟨3, 3, false⟩, ⟨4, 9, false⟩]) (.seq (.reg [⟨5, 7, false⟩, ⟨3, 4, false⟩, ⟨7, 7, false⟩, ⟨2, 4, false⟩, ⟨9, 0, false⟩, ⟨10, 2, true⟩, ⟨11, 7, false⟩, ⟨2, 4, false⟩, ⟨13, 7, false⟩, ⟨3, 4, false⟩, ⟨15, 0, false⟩, ⟨16, 20, false⟩, ⟨4, 2, false⟩]) .leaf))
    (Eq.mpr (by kernel_rfl) h)

/-- waveport/waveportlaw02.BoxBelow -/
theorem law2_BoxBelow_vc (p0 : EndsV) (p1 : EndsV) (V : View) (R : Value → View → Prop) 
  (h :
    CallV Try.prog 8 #[] V fun v V1 => ∃ r1 : Bool, v = .bool r1 ∧ -- waveportlaw02.awake
    ((!r1) = true →
      R (.bool false) V1) ∧
    ((!r1) = false →
      CallV Try.prog 13 #[p0.val] V1 fun v V2 => ∃ (r2 : SpV) (r3 : SpV) (r4 : Bool), v = .tuple #[r2.val, r3.val, .bool r4] ∧ -- (waveportlaw02.Ends).span
    CallV Try.prog 13 #[p1.val] V2 fun v V3 => ∃ (r5 : SpV) (r6 : SpV) (r7 : Bool), v = .tuple #[r5.val, r6.val, .bool r7] ∧ -- (waveportlaw02.Ends).span
    ((!r4) = true →
    R (.bool true) V3) ∧
    ((!r4) = false →
    ((!r7) = true →
      R (.bool true) V3) ∧
    ((!r7) = false →
      CallV Try.prog 14 #[r2.val, r5.val] V3 fun v V4 => ∃ r8 : Int, v = .int .i64 r8 ∧ -- (box.Span).Below
    CallV Try.prog 14 #[r5.val, r2.val] V4 fun v V5 => ∃ r9 : Int, v = .int .i64 r9 ∧ -- (box.Span).Below
    CallV Try.prog 15 #[r3.val, r6.val] V5 fun v V6 => ∃ r10 : Int, v = .int .i64 r10 ∧ -- (waveportref02.Span).Below
    (((r8 : Int) == r10) = true →
    CallV Try.prog 15 #[r6.val, r3.val] V6 fun v V7 => ∃ r11 : Int, v = .int .i64 r11 ∧ -- (waveportref02.Span).Below
    (((r9 : Int) == r11) = true →
    (((r8 : Int) == 1) = true →
    ((!((r9 : Int) == 1)) = true →
    (((r8 : Int) != 1) = true →
    CallV Try.prog 16 #[r2.val, r5.val] V7 fun v V8 => ∃ r12 : Bool, v = .bool r12 ∧ -- (box.Span).In
    CallV Try.prog 17 #[r3.val, r6.val] V8 fun v V9 => ∃ r13 : Bool, v = .bool r13 ∧ -- (waveportref02.Span).In
    ((r12 == r13) = true →
    CallV Try.prog 16 #[r2.val, r2.val] V9 fun v V10 => ∃ r14 : Bool, v = .bool r14 ∧ -- (box.Span).In
    R (.bool r14) V10) ∧
    ((r12 == r13) = false →
    R (.bool false) V9)) ∧
    (((r8 : Int) != 1) = false →
    (((r9 : Int) == 2) = true →
    CallV Try.prog 16 #[r2.val, r5.val] V7 fun v V11 => ∃ r15 : Bool, v = .bool r15 ∧ -- (box.Span).In
    CallV Try.prog 17 #[r3.val, r6.val] V11 fun v V12 => ∃ r16 : Bool, v = .bool r16 ∧ -- (waveportref02.Span).In
    ((r15 == r16) = true →
    CallV Try.prog 16 #[r2.val, r2.val] V12 fun v V13 => ∃ r17 : Bool, v = .bool r17 ∧ -- (box.Span).In
    R (.bool r17) V13) ∧
    ((r15 == r16) = false →
    R (.bool false) V12)) ∧
    (((r9 : Int) == 2) = false →
    R (.bool false) V7))) ∧
    ((!((r9 : Int) == 1)) = false →
    R (.bool false) V7)) ∧
    (((r8 : Int) == 1) = false →
    (((r8 : Int) != 1) = true →
    CallV Try.prog 16 #[r2.val, r5.val] V7 fun v V14 => ∃ r18 : Bool, v = .bool r18 ∧ -- (box.Span).In
    CallV Try.prog 17 #[r3.val, r6.val] V14 fun v V15 => ∃ r19 : Bool, v = .bool r19 ∧ -- (waveportref02.Span).In
    ((r18 == r19) = true →
    CallV Try.prog 16 #[r2.val, r2.val] V15 fun v V16 => ∃ r20 : Bool, v = .bool r20 ∧ -- (box.Span).In
    R (.bool r20) V16) ∧
    ((r18 == r19) = false →
    R (.bool false) V15)) ∧
    (((r8 : Int) != 1) = false →
    (((r9 : Int) == 2) = true →
    CallV Try.prog 16 #[r2.val, r5.val] V7 fun v V17 => ∃ r21 : Bool, v = .bool r21 ∧ -- (box.Span).In
    CallV Try.prog 17 #[r3.val, r6.val] V17 fun v V18 => ∃ r22 : Bool, v = .bool r22 ∧ -- (waveportref02.Span).In
    ((r21 == r22) = true →
    CallV Try.prog 16 #[r2.val, r2.val] V18 fun v V19 => ∃ r23 : Bool, v = .bool r23 ∧ -- (box.Span).In
    R (.bool r23) V19) ∧
    ((r21 == r22) = false →
    R (.bool false) V18)) ∧
    (((r9 : Int) == 2) = false →
    R (.bool false) V7)))) ∧
    (((r9 : Int) == r11) = false →
    R (.bool false) V7)) ∧
    (((r8 : Int) == r10) = false →
    R (.bool false) V6))))) :
  CallV Try.prog 4 #[p0.val, p1.val] V R :=
  calls_of_vc (Shp := Shp) hmixed Try.func4 (c := Try.f4.body.getD .skip) (args := [p0.val, p1.val]) (by kernel_rfl)
    (.seq (.reg [⟨2, 3, false⟩, ⟨3, 3, false⟩, ⟨4, 9, false⟩]) (.seq (.seq (.reg [⟨13, 10, false⟩, ⟨14, 20, false⟩]) (.cond (.seq (.reg [⟨4, 9, false⟩]) .leaf) .leaf)) (.seq (.reg [⟨2, 4, false⟩, ⟨17, 10, false⟩, ⟨15, 2, false⟩, ⟨18, 0, false⟩, ⟨19, 0, false⟩, ⟨20, 0, false⟩, ⟨5, 3, false⟩, ⟨6, 3, false⟩, ⟨5, 6, false⟩, ⟨6, 6, false⟩, ⟨7, 2, false⟩]) (.seq (.reg [⟨3, 4, false⟩, ⟨23, 10, false⟩, ⟨21, 2, false⟩, ⟨24, 0, false⟩, ⟨25, 0, false⟩, ⟨26, 0, false⟩, ⟨8, 3, false⟩, ⟨9, 3, false⟩, ⟨8, 6, false⟩, ⟨9, 6, false⟩, ⟨10, 2, false⟩]) (.seq (.seq (.reg [⟨27, 2, false⟩, ⟨28, 20, false⟩, ⟨29, 2, true⟩, ⟨30, 2, false⟩, ⟨31, 20, false⟩, ⟨32, 20, false⟩]) (.cond (.seq (.reg [⟨4, 9, false⟩]) .leaf) .leaf)) (.seq (.draw [(0, ⟨5, 4, false⟩), (1, ⟨8, 4, false⟩), (3, ⟨8, 4, false⟩), (4, ⟨5, 4, false⟩), (2, ⟨35, 10, false⟩), (5, ⟨38, 10, false⟩), (6, ⟨11, 2, false⟩), (7, ⟨12, 2, false⟩)] [0, 0, 3, 0, 0, 31, 63, 127]) (.seq (.draw [(0, ⟨39, 2, false⟩), (1, ⟨6, 4, false⟩), (2, ⟨9, 4, false⟩), (3, ⟨42, 10, false⟩), (4, ⟨43, 0, false⟩), (5, ⟨44, 2, true⟩), (6, ⟨45, 2, false⟩), (7, ⟨9, 4, false⟩), (8, ⟨6, 4, false⟩), (9, ⟨48, 10, false⟩), (10, ⟨49, 0, false⟩), (11, ⟨50, 20, false⟩), (12, ⟨51, 2, true⟩), (13, ⟨52, 2, false⟩), (14, ⟨53, 0, false⟩), (15, ⟨54, 2, true⟩), (16, ⟨55, 2, false⟩), (17, ⟨56, 0, false⟩), (18, ⟨57, 20, false⟩), (19, ⟨58, 20, false⟩), (20, ⟨59, 20, false⟩), (21, ⟨60, 2, true⟩), (22, ⟨61, 2, false⟩), (23, ⟨62, 0, false⟩), (24, ⟨63, 2, true⟩), (25, ⟨64, 2, false⟩), (26, ⟨65, 0, false⟩), (27, ⟨66, 20, false⟩), (28, ⟨67, 20, false⟩), (29, ⟨68, 2, true⟩), (30, ⟨5, 4, false⟩), (31, ⟨8, 4, false⟩), (33, ⟨6, 4, false⟩), (34, ⟨9, 4, false⟩), (32, ⟨71, 10, false⟩), (35, ⟨74, 10, false⟩), (36, ⟨75, 0, false⟩), (37, ⟨76, 20, false⟩), (38, ⟨77, 2, true⟩), (39, ⟨5, 4, false⟩), (40, ⟨5, 4, false⟩), (41, ⟨80, 10, false⟩), (42, ⟨81, 20, false⟩), (43, ⟨4, 2, false⟩)] [0, 0, 0, 6, 15, 31, 63, 63, 63, 447, 1023, 2047, 4095, 8191, 16383, 32767, 65535, 131071, 262143, 524287, 1048575, 2097151, 4194303, 8388607, 16777215, 33554431, 67108863, 134217727, 268435455, 536870911, 1073741823, 1073741823, 4294967295, 1073741823, 1073741823, 34359738367, 68719476735, 137438953471, 274877906943, 549755813887, 549755813887, 2199023255551, 4398046511103, 8796093022207]) .leaf)))))))
    (Eq.mpr (by kernel_rfl) h)

end Go.Proofs.Ytcapadojlaojkaa
