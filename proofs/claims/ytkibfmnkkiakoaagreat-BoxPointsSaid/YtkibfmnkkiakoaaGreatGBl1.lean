/- Part of the proof; it has the parts GBl1. -/
import Derived.Test.YtkibfmnkkiakoaaGreatGBl2
set_option maxRecDepth 100000
set_option maxHeartbeats 4000000
namespace Go.Proofs.YtkibfmnkkiakoaaGreat
open Go Go.Vc Go.Proofs

/-- waveport/waveportref02.end -/
theorem ref2_end_vc (p0 : Nat) (V : View) (R : Value → View → Prop) 
  (h :
    ((FloatKind.f64.format.order p0 0 == some .eq) = true →
      R (.float .f64 0) V) ∧
    ((FloatKind.f64.format.order p0 0 == some .eq) = false →
      R (.float .f64 p0) V)) :
  CallV Tryz.prog 150 #[.float .f64 p0] V R :=
  calls_of_vc (Shp := Shp) hmixed Tryz.func150 (c := Tryz.f150.body.getD .skip) (args := [.float .f64 p0]) (by kernel_rfl)
    (.seq (.reg [⟨2, 2, false⟩]) (.seq (.seq (.reg [⟨3, 2, false⟩, ⟨4, 0, false⟩]) (.cond (.seq (.reg [⟨2, 2, false⟩]) .leaf) .leaf)) (.seq (.reg [⟨5, 2, false⟩, ⟨2, 2, false⟩]) .leaf)))
    (Eq.mpr (by kernel_rfl) h)

/-- waveport/waveportref02.MakeSpan -/
theorem ref2_MakeSpan_vc (p0 : Nat) (p1 : Nat) (V : View) (R : Value → View → Prop) 
  (h :
    CallV Tryz.prog 206 #[.float .f64 p0] V fun v V1 => ∃ r1 : Bool, v = .bool r1 ∧ -- math.IsNaN
    (r1 = true →
    R (.tuple #[(SpV.mk 0 0).val, .int .i64 1]) V1) ∧
    (r1 = false →
    CallV Tryz.prog 206 #[.float .f64 p1] V1 fun v V2 => ∃ r2 : Bool, v = .bool r2 ∧ -- math.IsNaN
    (r2 = true →
    R (.tuple #[(SpV.mk 0 0).val, .int .i64 1]) V2) ∧
    (r2 = false →
    CallV Tryz.prog 200 #[.float .f64 p0, .int .i64 1] V2 fun v V3 => ∃ r3 : Bool, v = .bool r3 ∧ -- math.IsInf
    (r3 = true →
    R (.tuple #[(SpV.mk 0 0).val, .int .i64 1]) V3) ∧
    (r3 = false →
    CallV Tryz.prog 200 #[.float .f64 p1, .int .i64 (-1)] V3 fun v V4 => ∃ r4 : Bool, v = .bool r4 ∧ -- math.IsInf
    (r4 = true →
      R (.tuple #[(SpV.mk 0 0).val, .int .i64 1]) V4) ∧
    (r4 = false →
      ((FloatKind.f64.format.order p0 p1 == some .gt) = true →
      R (.tuple #[(SpV.mk 0 0).val, .int .i64 7]) V4) ∧
    ((FloatKind.f64.format.order p0 p1 == some .gt) = false →
      CallV Tryz.prog 150 #[.float .f64 p0] V4 fun v V5 => ∃ r5 : Nat, v = .float .f64 r5 ∧ -- waveportref02.end
    CallV Tryz.prog 150 #[.float .f64 p1] V5 fun v V6 => ∃ r6 : Nat, v = .float .f64 r6 ∧ -- waveportref02.end
    R (.tuple #[(SpV.mk r5 r6).val, .int .i64 0]) V6)))))) :
  CallV Tryz.prog 152 #[.float .f64 p0, .float .f64 p1] V R :=
  calls_of_vc (Shp := Shp) hmixed Tryz.func152 (c := Tryz.f152.body.getD .skip) (args := [.float .f64 p0, .float .f64 p1]) (by kernel_rfl)
    (.seq (.reg [⟨4, 3, false⟩, ⟨5, 2, false⟩]) (.seq (.seq (.reg [⟨6, 2, false⟩, ⟨7, 10, false⟩, ⟨8, 2, true⟩, ⟨9, 2, false⟩, ⟨10, 10, false⟩, ⟨11, 20, false⟩, ⟨12, 2, true⟩, ⟨13, 2, false⟩, ⟨14, 10, false⟩, ⟨15, 20, false⟩, ⟨16, 2, true⟩, ⟨17, 2, false⟩, ⟨18, 10, false⟩, ⟨19, 20, false⟩]) (.cond (.seq (.reg [⟨20, 0, false⟩, ⟨4, 6, false⟩, ⟨5, 2, false⟩]) .leaf) .leaf)) (.seq (.seq (.reg [⟨21, 2, false⟩, ⟨22, 2, false⟩, ⟨23, 0, false⟩]) (.cond (.seq (.reg [⟨24, 0, false⟩, ⟨4, 6, false⟩, ⟨5, 2, false⟩]) .leaf) .leaf)) (.seq (.reg [⟨25, 2, false⟩, ⟨26, 10, false⟩, ⟨27, 2, false⟩, ⟨28, 10, false⟩, ⟨29, 0, false⟩, ⟨4, 6, false⟩, ⟨5, 2, false⟩]) .leaf))))
    (Eq.mpr (by kernel_rfl) h)

/-- (waveport/waveportlaw02.Ends).floats -/
theorem law2_Ends_floats_vc (p0 : EndsV) (V : View) (R : Value → View → Prop) 
  (h :
    ∃ e1 : Nat, ExtVal Tryz.prog 221 #[.int .u64 p0.lo] (.float .f64 e1) ∧ -- math.Float64frombits
    ∃ e2 : Nat, ExtVal Tryz.prog 221 #[.int .u64 p0.hi] (.float .f64 e2) ∧ -- math.Float64frombits
    ((FloatKind.f64.format.order e1 e2 == some .gt) = true →
      R (.tuple #[.float .f64 e2, .float .f64 e1]) V) ∧
    ((FloatKind.f64.format.order e1 e2 == some .gt) = false →
      R (.tuple #[.float .f64 e1, .float .f64 e2]) V)) :
  CallV Tryz.prog 151 #[p0.val] V R :=
  calls_of_vc (Shp := Shp) hmixed Tryz.func151 (c := Tryz.f151.body.getD .skip) (args := [p0.val]) (by kernel_rfl)
    (.seq (.reg [⟨1, 3, false⟩, ⟨2, 2, false⟩, ⟨3, 2, false⟩]) (.seq (.draw [(0, ⟨6, 7, false⟩), (1, ⟨1, 4, false⟩), (3, ⟨9, 7, false⟩), (4, ⟨1, 4, false⟩), (2, ⟨8, 12, false⟩), (5, ⟨11, 12, false⟩), (6, ⟨4, 2, false⟩), (7, ⟨5, 2, false⟩)] [0, 1, 3, 0, 8, 31, 63, 127]) (.seq (.seq (.reg [⟨12, 2, false⟩, ⟨13, 2, false⟩, ⟨14, 0, false⟩]) (.cond (.reg [⟨15, 2, false⟩, ⟨16, 2, false⟩, ⟨4, 2, false⟩, ⟨5, 2, false⟩]) .leaf)) (.seq (.reg [⟨17, 2, false⟩, ⟨18, 2, false⟩, ⟨2, 2, false⟩, ⟨3, 2, false⟩]) .leaf))))
    (Eq.mpr (by kernel_rfl) h)

/-- (waveport/waveportlaw02.Ends).span -/
theorem law2_Ends_span_vc (p0 : EndsV) (V : View) (R : Value → View → Prop) 
  (h :
    CallV Tryz.prog 151 #[p0.val] V fun v V1 => ∃ (r1 : Nat) (r2 : Nat), v = .tuple #[.float .f64 r1, .float .f64 r2] ∧ -- (waveportlaw02.Ends).floats
    CallV Tryz.prog 152 #[.float .f64 r1, .float .f64 r2] V1 fun v V2 => ∃ (r3 : SpV) (r4 : Int), v = .tuple #[r3.val, .int .i64 r4] ∧ -- waveportref02.MakeSpan
    (((r4 : Int) != 0) = true →
      R (.tuple #[(SpV.mk 0 0).val, (SpV.mk 0 0).val, .bool false]) V2) ∧
    (((r4 : Int) != 0) = false →
      CallV Tryz.prog 153 #[.float .f64 r1, .float .f64 r2] V2 fun v V3 => ∃ (r5 : SpV) (r6 : Int), v = .tuple #[r5.val, .int .i64 r6] ∧ -- box.MakeSpan
    R (.tuple #[r5.val, r3.val, .bool true]) V3)) :
  CallV Tryz.prog 64 #[p0.val] V R :=
  calls_of_vc (Shp := Shp) hmixed Tryz.func64 (c := Tryz.f64.body.getD .skip) (args := [p0.val]) (by kernel_rfl)
    (.seq (.reg [⟨1, 3, false⟩, ⟨2, 3, false⟩, ⟨3, 3, false⟩, ⟨4, 9, false⟩]) (.seq (.reg [⟨1, 4, false⟩, ⟨13, 10, false⟩, ⟨11, 2, false⟩, ⟨14, 0, false⟩, ⟨15, 0, false⟩, ⟨5, 2, false⟩, ⟨6, 2, false⟩]) (.seq (.reg [⟨17, 2, false⟩, ⟨18, 2, false⟩, ⟨19, 10, false⟩, ⟨16, 2, false⟩, ⟨20, 0, false⟩, ⟨21, 0, false⟩, ⟨7, 3, false⟩, ⟨7, 6, false⟩, ⟨8, 2, false⟩]) (.seq (.seq (.reg [⟨22, 2, false⟩, ⟨23, 0, false⟩]) (.cond (.seq (.reg [⟨24, 0, false⟩, ⟨25, 0, false⟩, ⟨2, 6, false⟩, ⟨3, 6, false⟩, ⟨4, 9, false⟩]) .leaf) .leaf)) (.seq (.reg [⟨27, 2, false⟩, ⟨28, 2, false⟩, ⟨29, 10, false⟩, ⟨26, 2, false⟩, ⟨30, 0, false⟩, ⟨31, 0, false⟩, ⟨9, 3, false⟩, ⟨9, 6, false⟩, ⟨10, 2, false⟩]) (.seq (.draw [(0, ⟨9, 4, false⟩), (1, ⟨7, 4, false⟩), (2, ⟨2, 6, false⟩), (3, ⟨3, 6, false⟩), (4, ⟨4, 9, false⟩)] [0, 0, 1, 7, 15]) .leaf))))))
    (Eq.mpr (by kernel_rfl) h)

/-- waveport/waveportlaw02.awake -/
theorem law2_awake_vc  (V : View) (R : Value → View → Prop) 
  (h :
    CallV Tryz.prog 95 #[.complex .f64 (CxV.mk 4607182418800017408 0).re (CxV.mk 4607182418800017408 0).im, .complex .f64 (CxV.mk 4611686018427387904 4607182418800017408).re (CxV.mk 4611686018427387904 4607182418800017408).im] V fun v V1 => ∃ (r1 : BoxV) (r2 : Int), v = .tuple #[r1.val, .int .i64 r2] ∧ -- box.Make
    CallV Tryz.prog 26 #[r1.val] V1 fun v V2 => ∃ (r3 : BoxV) (r4 : Int), v = .tuple #[r3.val, .int .i64 r4] ∧ -- (box.Box).Inv
    CallV Tryz.prog 41 #[r1.val, r1.val] V2 fun v V3 => ∃ r5 : BoxV, v = r5.val ∧ -- (box.Box).Mul
    (((r2 : Int) == 0) = true →
    (((r4 : Int) == 0) = true →
    CallV Tryz.prog 58 #[r5.val] V3 fun v V4 => ∃ r6 : CxV, v = .complex .f64 r6.re r6.im ∧ -- (box.Box).Lo
    (((FloatKind.f64.format.order r6.re 0 == some .eq) && (FloatKind.f64.format.order r6.im 0 == some .eq)) = true →
    CallV Tryz.prog 59 #[r5.val] V4 fun v V5 => ∃ r7 : CxV, v = .complex .f64 r7.re r7.im ∧ -- (box.Box).Hi
    (((FloatKind.f64.format.order r7.re 4616189618054758400 == some .eq) && (FloatKind.f64.format.order r7.im 4616189618054758400 == some .eq)) = true →
    CallV Tryz.prog 58 #[r3.val] V5 fun v V6 => ∃ r8 : CxV, v = .complex .f64 r8.re r8.im ∧ -- (box.Box).Lo
    ((FloatKind.f64.format.order r8.im 13826050856027422720 == some .eq) = true →
    CallV Tryz.prog 59 #[r3.val] V6 fun v V7 => ∃ r9 : CxV, v = .complex .f64 r9.re r9.im ∧ -- (box.Box).Hi
    ((FloatKind.f64.format.order r9.re 4607182418800017408 == some .eq) = true →
    CallV Tryz.prog 30 #[r1.val] V7 fun v V8 => ∃ r10 : Bool, v = .bool r10 ∧ -- (box.Box).Clear
    (r10 = true →
    CallV Tryz.prog 30 #[r5.val] V8 fun v V9 => ∃ r11 : Bool, v = .bool r11 ∧ -- (box.Box).Clear
    R (.bool (!r11)) V9) ∧
    (r10 = false →
    R (.bool false) V8)) ∧
    ((FloatKind.f64.format.order r9.re 4607182418800017408 == some .eq) = false →
    R (.bool false) V7)) ∧
    ((FloatKind.f64.format.order r8.im 13826050856027422720 == some .eq) = false →
    R (.bool false) V6)) ∧
    (((FloatKind.f64.format.order r7.re 4616189618054758400 == some .eq) && (FloatKind.f64.format.order r7.im 4616189618054758400 == some .eq)) = false →
    R (.bool false) V5)) ∧
    (((FloatKind.f64.format.order r6.re 0 == some .eq) && (FloatKind.f64.format.order r6.im 0 == some .eq)) = false →
    R (.bool false) V4)) ∧
    (((r4 : Int) == 0) = false →
    R (.bool false) V3)) ∧
    (((r2 : Int) == 0) = false →
    R (.bool false) V3)) :
  CallV Tryz.prog 15 #[] V R :=
  calls_of_vc (Shp := Shp) hmixed Tryz.func15 (c := Tryz.f15.body.getD .skip) (args := []) (by kernel_rfl)
    (.seq (.reg [⟨0, 9, false⟩]) (.seq (.reg [⟨7, 10, false⟩, ⟨6, 2, false⟩, ⟨8, 0, false⟩, ⟨9, 0, false⟩, ⟨1, 3, false⟩, ⟨1, 6, false⟩, ⟨2, 2, false⟩]) (.seq (.reg [⟨1, 4, false⟩, ⟨12, 10, false⟩, ⟨10, 2, false⟩, ⟨13, 0, false⟩, ⟨14, 0, false⟩, ⟨3, 3, false⟩, ⟨3, 6, false⟩, ⟨4, 2, false⟩]) (.seq (.reg [⟨1, 4, false⟩, ⟨1, 4, false⟩, ⟨17, 10, false⟩, ⟨5, 3, false⟩, ⟨5, 6, false⟩]) (.seq (.reg [⟨18, 2, false⟩, ⟨19, 0, false⟩, ⟨20, 2, true⟩, ⟨21, 2, false⟩, ⟨22, 0, false⟩, ⟨23, 20, false⟩, ⟨24, 2, true⟩, ⟨5, 4, false⟩, ⟨26, 10, false⟩, ⟨27, 0, false⟩, ⟨28, 20, false⟩, ⟨29, 2, true⟩, ⟨5, 4, false⟩, ⟨31, 10, false⟩, ⟨32, 0, false⟩, ⟨33, 20, false⟩, ⟨34, 2, true⟩, ⟨3, 4, false⟩, ⟨36, 10, false⟩, ⟨37, 0, false⟩, ⟨38, 0, false⟩, ⟨39, 20, false⟩, ⟨40, 2, true⟩, ⟨3, 4, false⟩, ⟨42, 10, false⟩, ⟨43, 0, false⟩, ⟨44, 0, false⟩, ⟨45, 20, false⟩, ⟨46, 2, true⟩, ⟨1, 4, false⟩, ⟨48, 10, false⟩, ⟨49, 20, false⟩, ⟨50, 2, true⟩, ⟨5, 4, false⟩, ⟨52, 10, false⟩, ⟨53, 20, false⟩, ⟨54, 20, false⟩, ⟨0, 2, false⟩]) .leaf)))))
    (Eq.mpr (by kernel_rfl) h)

end Go.Proofs.YtkibfmnkkiakoaaGreat
