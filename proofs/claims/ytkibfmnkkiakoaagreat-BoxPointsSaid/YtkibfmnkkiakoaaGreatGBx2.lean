/- Part of the proof; it has the parts GBx2. -/
import Derived.Test.YtkibfmnkkiakoaaGreatGBx3
set_option maxRecDepth 100000
set_option maxHeartbeats 4000000
namespace Go.Proofs.YtkibfmnkkiakoaaGreat
open Go Go.Vc Go.Proofs

/-- waveport/box.plain -/
theorem box_plain_vc (p0 : Nat) (V : View) (R : Value → View → Prop) 
  (h :
    ((FloatKind.f64.format.order p0 0 == some .eq) = true →
      R (.float .f64 0) V) ∧
    ((FloatKind.f64.format.order p0 0 == some .eq) = false →
      R (.float .f64 p0) V)) :
  CallV Tryz.prog 148 #[.float .f64 p0] V R :=
  calls_of_vc (Shp := Shp) hmixed Tryz.func148 (c := Tryz.f148.body.getD .skip) (args := [.float .f64 p0]) (by kernel_rfl)
    (.seq (.reg [⟨2, 2, false⟩]) (.seq (.seq (.reg [⟨3, 2, false⟩, ⟨4, 0, false⟩]) (.cond (.seq (.reg [⟨2, 2, false⟩]) .leaf) .leaf)) (.seq (.reg [⟨5, 2, false⟩, ⟨2, 2, false⟩]) .leaf)))
    (Eq.mpr (by kernel_rfl) h)

/-- waveport/box.MakeSpan -/
theorem box_MakeSpan_vc (p0 : Nat) (p1 : Nat) (V : View) (R : Value → View → Prop) 
  (h :
    CallV Tryz.prog 206 #[.float .f64 p0] V fun v V1 => ∃ r1 : Bool, v = .bool r1 ∧ -- math.IsNaN
    (r1 = true →
    R (.tuple #[(SpV.mk 0 0).val, .int .i64 1]) V1) ∧
    (r1 = false →
    CallV Tryz.prog 206 #[.float .f64 p1] V1 fun v V2 => ∃ r2 : Bool, v = .bool r2 ∧ -- math.IsNaN
    (r2 = true →
    R (.tuple #[(SpV.mk 0 0).val, .int .i64 1]) V2) ∧
    (r2 = false →
    CallV Tryz.prog 200 #[.float .f64 p0, .int .i64 1] V2 fun v V3 => ∃ r3 : Bool, v = .bool r3 ∧ -- math.IsInf
    (r3 = true →
    R (.tuple #[(SpV.mk 0 0).val, .int .i64 1]) V3) ∧
    (r3 = false →
    CallV Tryz.prog 200 #[.float .f64 p1, .int .i64 (-1)] V3 fun v V4 => ∃ r4 : Bool, v = .bool r4 ∧ -- math.IsInf
    (r4 = true →
      R (.tuple #[(SpV.mk 0 0).val, .int .i64 1]) V4) ∧
    (r4 = false →
      ((FloatKind.f64.format.order p0 p1 == some .gt) = true →
        R (.tuple #[(SpV.mk 0 0).val, .int .i64 7]) V4) ∧
      ((FloatKind.f64.format.order p0 p1 == some .gt) = false →
        CallV Tryz.prog 148 #[.float .f64 p0] V4 fun v V5 => ∃ r5 : Nat, v = .float .f64 r5 ∧ -- box.plain
    CallV Tryz.prog 148 #[.float .f64 p1] V5 fun v V6 => ∃ r6 : Nat, v = .float .f64 r6 ∧ -- box.plain
    R (.tuple #[(SpV.mk r5 r6).val, .int .i64 0]) V6)))))) :
  CallV Tryz.prog 153 #[.float .f64 p0, .float .f64 p1] V R :=
  calls_of_vc (Shp := Shp) hmixed Tryz.func153 (c := Tryz.f153.body.getD .skip) (args := [.float .f64 p0, .float .f64 p1]) (by kernel_rfl)
    (.seq (.reg [⟨4, 3, false⟩, ⟨5, 2, false⟩]) (.seq (.block (.seq (.reg [⟨7, 2, false⟩, ⟨8, 10, false⟩, ⟨9, 2, true⟩, ⟨10, 2, false⟩, ⟨11, 10, false⟩, ⟨12, 20, false⟩, ⟨13, 2, true⟩, ⟨14, 2, false⟩, ⟨15, 10, false⟩, ⟨16, 20, false⟩, ⟨17, 2, true⟩, ⟨18, 2, false⟩, ⟨19, 10, false⟩, ⟨20, 20, false⟩, ⟨6, 2, false⟩]) (.cond (.seq (.reg [⟨21, 0, false⟩, ⟨4, 6, false⟩, ⟨5, 2, false⟩]) .leaf) (.seq (.reg [⟨23, 2, false⟩, ⟨24, 2, false⟩, ⟨25, 0, false⟩, ⟨22, 2, false⟩]) (.cond (.seq (.reg [⟨26, 0, false⟩, ⟨4, 6, false⟩, ⟨5, 2, false⟩]) .leaf) .leaf))))) (.seq (.reg [⟨27, 2, false⟩, ⟨28, 10, false⟩, ⟨29, 2, false⟩, ⟨30, 10, false⟩, ⟨31, 0, false⟩, ⟨4, 6, false⟩, ⟨5, 2, false⟩]) .leaf)))
    (Eq.mpr (by kernel_rfl) h)

/-- waveport/box.meet -/
theorem box_meet_vc (p0 : SpV) (p1 : SpV) (V : View) (R : Value → View → Prop) 
  (h :
    (FloatKind.f64.format.order p0.lo p1.lo).isSome = true ∧
    (FloatKind.f64.format.order p0.hi p1.hi).isSome = true ∧
    R (.tuple #[(SpV.mk (fmax .f64 p0.lo p1.lo) (fmin .f64 p0.hi p1.hi)).val, .bool ((FloatKind.f64.format.order (fmax .f64 p0.lo p1.lo) (fmin .f64 p0.hi p1.hi) == some .lt) || (FloatKind.f64.format.order (fmax .f64 p0.lo p1.lo) (fmin .f64 p0.hi p1.hi) == some .eq))]) V) :
  CallV Tryz.prog 126 #[p0.val, p1.val] V R :=
  calls_of_vc (Shp := Shp) hmixed Tryz.func126 (c := Tryz.f126.body.getD .skip) (args := [p0.val, p1.val]) (by kernel_rfl)
    (.seq (.reg [⟨2, 3, false⟩, ⟨3, 3, false⟩, ⟨4, 3, false⟩, ⟨5, 9, false⟩]) (.seq (.reg [⟨7, 7, false⟩, ⟨2, 4, false⟩, ⟨9, 7, false⟩, ⟨3, 4, false⟩, ⟨11, 12, false⟩, ⟨12, 7, false⟩, ⟨2, 4, false⟩, ⟨14, 7, false⟩, ⟨3, 4, false⟩, ⟨16, 12, false⟩, ⟨17, 0, false⟩, ⟨6, 3, false⟩, ⟨6, 6, false⟩]) (.seq (.draw [(0, ⟨6, 4, false⟩), (1, ⟨19, 7, false⟩), (2, ⟨6, 4, false⟩), (3, ⟨21, 7, false⟩), (4, ⟨6, 4, false⟩), (5, ⟨23, 0, false⟩), (6, ⟨4, 6, false⟩), (7, ⟨5, 2, false⟩)] [0, 0, 2, 0, 8, 30, 1, 127]) .leaf)))
    (Eq.mpr (by kernel_rfl) h)

/-- (waveport/box.Span).set -/
theorem Span_set_vc (p0 : SpV) (V : View) (R : Value → View → Prop) 
  (h :
    CallV Tryz.prog 183 #[.float .f64 p0.lo] V fun v V1 => ∃ r1 : BdV, v = r1.val ∧ -- box.end
    CallV Tryz.prog 183 #[.float .f64 p0.hi] V1 fun v V2 => ∃ r2 : BdV, v = r2.val ∧ -- box.end
    R ((SetV.mk r1 r2).val) V2) :
  CallV Tryz.prog 99 #[p0.val] V R :=
  calls_of_vc (Shp := Shp) hmixed Tryz.func99 (c := Tryz.f99.body.getD .skip) (args := [p0.val]) (by kernel_rfl)
    (.seq (.reg [⟨1, 3, false⟩, ⟨2, 3, false⟩]) (.seq (.draw [(0, ⟨3, 7, false⟩), (1, ⟨1, 4, false⟩), (3, ⟨6, 7, false⟩), (4, ⟨1, 4, false⟩), (2, ⟨5, 10, false⟩), (5, ⟨8, 10, false⟩), (6, ⟨9, 0, false⟩), (7, ⟨2, 6, false⟩)] [0, 1, 3, 0, 8, 31, 63, 127]) .leaf))
    (Eq.mpr (by kernel_rfl) h)

/-- (waveport/box.Span).Has -/
theorem Span_Has_vc (p0 : SpV) (p1 : NumV) (V : View) (R : Value → View → Prop) 
  (h :
    CallV Tryz.prog 99 #[p0.val] V fun v V1 => ∃ r1 : SetV, v = r1.val ∧ -- (box.Span).set
    CallV Tryz.prog 109 #[p1.val] V1 fun v V2 => ∃ r2 : Bool, v = .bool r2 ∧ -- (num.Num).Real
    (r2 = true →
    CallV Tryz.prog 117 #[r1.lo.val, (BdV.mk 0 p1).val] V2 fun v V3 => ∃ r3 : Int, v = .int .i64 r3 ∧ -- (box.bound).cmp
    ((decide ((r3 : Int) ≤ 0)) = true →
    CallV Tryz.prog 117 #[(BdV.mk 0 p1).val, r1.hi.val] V3 fun v V4 => ∃ r4 : Int, v = .int .i64 r4 ∧ -- (box.bound).cmp
    R (.bool (decide ((r4 : Int) ≤ 0))) V4) ∧
    ((decide ((r3 : Int) ≤ 0)) = false →
    R (.bool false) V3)) ∧
    (r2 = false →
    R (.bool false) V2)) :
  CallV Tryz.prog 39 #[p0.val, p1.val] V R :=
  calls_of_vc (Shp := Shp) hmixed Tryz.func39 (c := Tryz.f39.body.getD .skip) (args := [p0.val, p1.val]) (by kernel_rfl)
    (.seq (.reg [⟨2, 3, false⟩, ⟨3, 3, false⟩, ⟨4, 9, false⟩]) (.seq (.draw [(0, ⟨2, 4, false⟩), (2, ⟨3, 4, false⟩), (3, ⟨10, 0, false⟩), (4, ⟨5, 3, false⟩), (5, ⟨6, 3, false⟩), (1, ⟨8, 10, false⟩), (6, ⟨5, 6, false⟩), (7, ⟨6, 6, false⟩)] [0, 1, 0, 4, 0, 0, 51, 127]) (.seq (.reg [⟨3, 4, false⟩, ⟨12, 10, false⟩, ⟨13, 2, true⟩, ⟨14, 7, false⟩, ⟨5, 4, false⟩, ⟨6, 4, false⟩, ⟨17, 10, false⟩, ⟨18, 0, false⟩, ⟨19, 20, false⟩, ⟨20, 2, true⟩, ⟨6, 4, false⟩, ⟨22, 7, false⟩, ⟨5, 4, false⟩, ⟨24, 10, false⟩, ⟨25, 0, false⟩, ⟨26, 20, false⟩, ⟨4, 2, false⟩]) .leaf)))
    (Eq.mpr (by kernel_rfl) h)

/-- (waveport/box.Span).In -/
theorem Span_In_vc (p0 : SpV) (p1 : SpV) (V : View) (R : Value → View → Prop) 
  (h :
    (((FloatKind.f64.format.order p1.lo p0.lo == some .lt) || (FloatKind.f64.format.order p1.lo p0.lo == some .eq)) = true →
    R (.bool ((FloatKind.f64.format.order p0.hi p1.hi == some .lt) || (FloatKind.f64.format.order p0.hi p1.hi == some .eq))) V) ∧
    (((FloatKind.f64.format.order p1.lo p0.lo == some .lt) || (FloatKind.f64.format.order p1.lo p0.lo == some .eq)) = false →
    R (.bool false) V)) :
  CallV Tryz.prog 63 #[p0.val, p1.val] V R :=
  calls_of_vc (Shp := Shp) hmixed Tryz.func63 (c := Tryz.f63.body.getD .skip) (args := [p0.val, p1.val]) (by kernel_rfl)
    (.seq (.reg [⟨2, 3, false⟩, ⟨3, 3, false⟩, ⟨4, 9, false⟩]) (.seq (.reg [⟨5, 7, false⟩, ⟨3, 4, false⟩, ⟨7, 7, false⟩, ⟨2, 4, false⟩, ⟨9, 0, false⟩, ⟨10, 2, true⟩, ⟨11, 7, false⟩, ⟨2, 4, false⟩, ⟨13, 7, false⟩, ⟨3, 4, false⟩, ⟨15, 0, false⟩, ⟨16, 20, false⟩, ⟨4, 2, false⟩]) .leaf))
    (Eq.mpr (by kernel_rfl) h)

/-- waveport/box.Make -/
theorem box_Make_vc (p0 : CxV) (p1 : CxV) (V : View) (R : Value → View → Prop) 
  (h :
    CallV Tryz.prog 153 #[.float .f64 p0.re, .float .f64 p1.re] V fun v V1 => ∃ (r1 : SpV) (r2 : Int), v = .tuple #[r1.val, .int .i64 r2] ∧ -- box.MakeSpan
    CallV Tryz.prog 153 #[.float .f64 p0.im, .float .f64 p1.im] V1 fun v V2 => ∃ (r3 : SpV) (r4 : Int), v = .tuple #[r3.val, .int .i64 r4] ∧ -- box.MakeSpan
    (((r2 : Int) == 1) = true →
    R (.tuple #[(BoxV.mk (SpV.mk 0 0) (SpV.mk 0 0)).val, .int .i64 1]) V2) ∧
    (((r2 : Int) == 1) = false →
    (((r4 : Int) == 1) = true →
      R (.tuple #[(BoxV.mk (SpV.mk 0 0) (SpV.mk 0 0)).val, .int .i64 1]) V2) ∧
    (((r4 : Int) == 1) = false →
      (((r2 : Int) != 0) = true →
      R (.tuple #[(BoxV.mk (SpV.mk 0 0) (SpV.mk 0 0)).val, .int .i64 7]) V2) ∧
      (((r2 : Int) != 0) = false →
      (((r4 : Int) != 0) = true →
        R (.tuple #[(BoxV.mk (SpV.mk 0 0) (SpV.mk 0 0)).val, .int .i64 7]) V2) ∧
      (((r4 : Int) != 0) = false →
        R (.tuple #[(BoxV.mk r1 r3).val, .int .i64 0]) V2))))) :
  CallV Tryz.prog 95 #[.complex .f64 p0.re p0.im, .complex .f64 p1.re p1.im] V R :=
  calls_of_vc (Shp := Shp) hmixed Tryz.func95 (c := Tryz.f95.body.getD .skip) (args := [.complex .f64 p0.re p0.im, .complex .f64 p1.re p1.im]) (by kernel_rfl)
    (.seq (.reg [⟨4, 3, false⟩, ⟨5, 2, false⟩]) (.seq (.reg [⟨11, 2, false⟩, ⟨12, 0, false⟩, ⟨13, 2, false⟩, ⟨14, 0, false⟩, ⟨15, 10, false⟩, ⟨10, 2, false⟩, ⟨16, 0, false⟩, ⟨17, 0, false⟩, ⟨6, 3, false⟩, ⟨6, 6, false⟩, ⟨7, 2, false⟩]) (.seq (.reg [⟨19, 2, false⟩, ⟨20, 0, false⟩, ⟨21, 2, false⟩, ⟨22, 0, false⟩, ⟨23, 10, false⟩, ⟨18, 2, false⟩, ⟨24, 0, false⟩, ⟨25, 0, false⟩, ⟨8, 3, false⟩, ⟨8, 6, false⟩, ⟨9, 2, false⟩]) (.seq (.block (.seq (.reg [⟨27, 2, false⟩, ⟨28, 0, false⟩, ⟨29, 2, true⟩, ⟨30, 2, false⟩, ⟨31, 0, false⟩, ⟨32, 20, false⟩, ⟨26, 2, false⟩]) (.cond (.seq (.reg [⟨33, 0, false⟩, ⟨4, 6, false⟩, ⟨5, 2, false⟩]) .leaf) (.seq (.reg [⟨35, 2, false⟩, ⟨36, 0, false⟩, ⟨37, 2, true⟩, ⟨38, 2, false⟩, ⟨39, 0, false⟩, ⟨40, 20, false⟩, ⟨34, 2, false⟩]) (.cond (.seq (.reg [⟨41, 0, false⟩, ⟨4, 6, false⟩, ⟨5, 2, false⟩]) .leaf) .leaf))))) (.seq (.reg [⟨6, 4, false⟩, ⟨8, 4, false⟩, ⟨44, 0, false⟩, ⟨4, 6, false⟩, ⟨5, 2, false⟩]) .leaf)))))
    (Eq.mpr (by kernel_rfl) h)

/-- (waveport/box.Box).Has -/
theorem Box_Has_vc (p0 : BoxV) (p1 : NumV) (V : View) (R : Value → View → Prop) 
  (h :
    CallV Tryz.prog 128 #[p1.val] V fun v V1 => ∃ r1 : NumV, v = r1.val ∧ -- (num.Num).Re
    CallV Tryz.prog 39 #[p0.re.val, r1.val] V1 fun v V2 => ∃ r2 : Bool, v = .bool r2 ∧ -- (box.Span).Has
    (r2 = true →
    CallV Tryz.prog 129 #[p1.val] V2 fun v V3 => ∃ r3 : NumV, v = r3.val ∧ -- (num.Num).Im
    CallV Tryz.prog 39 #[p0.im.val, r3.val] V3 fun v V4 => ∃ r4 : Bool, v = .bool r4 ∧ -- (box.Span).Has
    R (.bool r4) V4) ∧
    (r2 = false →
    R (.bool false) V2)) :
  CallV Tryz.prog 49 #[p0.val, p1.val] V R :=
  calls_of_vc (Shp := Shp) hmixed Tryz.func49 (c := Tryz.f49.body.getD .skip) (args := [p0.val, p1.val]) (by kernel_rfl)
    (.seq (.reg [⟨2, 3, false⟩, ⟨3, 3, false⟩, ⟨4, 9, false⟩]) (.seq (.draw [(0, ⟨5, 7, false⟩), (1, ⟨2, 4, false⟩), (2, ⟨3, 4, false⟩), (3, ⟨8, 10, false⟩), (4, ⟨9, 10, false⟩), (5, ⟨10, 2, true⟩), (6, ⟨11, 7, false⟩), (7, ⟨2, 4, false⟩), (8, ⟨3, 4, false⟩), (9, ⟨14, 10, false⟩), (10, ⟨15, 10, false⟩), (11, ⟨16, 20, false⟩), (12, ⟨4, 2, false⟩)] [0, 1, 0, 4, 15, 31, 63, 127, 63, 319, 1023, 2047, 4095]) .leaf))
    (Eq.mpr (by kernel_rfl) h)

/-- (waveport/box.Box).Clear -/
theorem Box_Clear_vc (p0 : BoxV) (V : View) (R : Value → View → Prop) 
  (h :
    CallV Tryz.prog 49 #[p0.val, (NumV.mk (WhV.mk false (Sl.mk none 0 0)) (WhV.mk false (Sl.mk none 0 0)) (Sl.mk none 0 0)).val] V fun v V1 => ∃ r1 : Bool, v = .bool r1 ∧ -- (box.Box).Has
    R (.bool (!r1)) V1) :
  CallV Tryz.prog 30 #[p0.val] V R :=
  calls_of_vc (Shp := Shp) hmixed Tryz.func30 (c := Tryz.f30.body.getD .skip) (args := [p0.val]) (by kernel_rfl)
    (.seq (.reg [⟨1, 3, false⟩, ⟨2, 9, false⟩]) (.seq (.reg [⟨1, 4, false⟩, ⟨4, 0, false⟩, ⟨5, 10, false⟩, ⟨6, 20, false⟩, ⟨2, 2, false⟩]) .leaf))
    (Eq.mpr (by kernel_rfl) h)

/-- waveport/box.Pair -/
theorem box_Pair_vc (p0 : SpV) (p1 : SpV) (V : View) (R : Value → View → Prop) 
  (h :
    R ((BoxV.mk p0 p1).val) V) :
  CallV Tryz.prog 96 #[p0.val, p1.val] V R :=
  calls_of_vc (Shp := Shp) hmixed Tryz.func96 (c := Tryz.f96.body.getD .skip) (args := [p0.val, p1.val]) (by kernel_rfl)
    (.seq (.reg [⟨2, 3, false⟩, ⟨3, 3, false⟩, ⟨4, 3, false⟩]) (.seq (.reg [⟨2, 4, false⟩, ⟨3, 4, false⟩, ⟨7, 0, false⟩, ⟨4, 6, false⟩]) .leaf))
    (Eq.mpr (by kernel_rfl) h)

/-- (waveport/box.Box).Lo -/
theorem Box_Lo_vc (p0 : BoxV) (V : View) (R : Value → View → Prop) 
  (h :
    R (.complex .f64 (CxV.mk p0.re.lo p0.im.lo).re (CxV.mk p0.re.lo p0.im.lo).im) V) :
  CallV Tryz.prog 58 #[p0.val] V R :=
  calls_of_vc (Shp := Shp) hmixed Tryz.func58 (c := Tryz.f58.body.getD .skip) (args := [p0.val]) (by kernel_rfl)
    (.seq (.reg [⟨1, 3, false⟩, ⟨2, 2, false⟩]) (.seq (.reg [⟨3, 7, false⟩, ⟨4, 7, false⟩, ⟨1, 4, false⟩, ⟨6, 7, false⟩, ⟨7, 7, false⟩, ⟨1, 4, false⟩, ⟨9, 0, false⟩, ⟨2, 2, false⟩]) .leaf))
    (Eq.mpr (by kernel_rfl) h)

/-- (waveport/box.Box).Hi -/
theorem Box_Hi_vc (p0 : BoxV) (V : View) (R : Value → View → Prop) 
  (h :
    R (.complex .f64 (CxV.mk p0.re.hi p0.im.hi).re (CxV.mk p0.re.hi p0.im.hi).im) V) :
  CallV Tryz.prog 59 #[p0.val] V R :=
  calls_of_vc (Shp := Shp) hmixed Tryz.func59 (c := Tryz.f59.body.getD .skip) (args := [p0.val]) (by kernel_rfl)
    (.seq (.reg [⟨1, 3, false⟩, ⟨2, 2, false⟩]) (.seq (.reg [⟨3, 7, false⟩, ⟨4, 7, false⟩, ⟨1, 4, false⟩, ⟨6, 7, false⟩, ⟨7, 7, false⟩, ⟨1, 4, false⟩, ⟨9, 0, false⟩, ⟨2, 2, false⟩]) .leaf))
    (Eq.mpr (by kernel_rfl) h)

/-- (waveport/box.Box).Mul -/
theorem Box_Mul_vc (p0 : BoxV) (p1 : BoxV) (V : View) (R : Value → View → Prop) 
  (h :
    CallV Tryz.prog 99 #[p0.re.val] V fun v V1 => ∃ r1 : SetV, v = r1.val ∧ -- (box.Span).set
    CallV Tryz.prog 99 #[p0.im.val] V1 fun v V2 => ∃ r2 : SetV, v = r2.val ∧ -- (box.Span).set
    CallV Tryz.prog 99 #[p1.re.val] V2 fun v V3 => ∃ r3 : SetV, v = r3.val ∧ -- (box.Span).set
    CallV Tryz.prog 99 #[p1.im.val] V3 fun v V4 => ∃ r4 : SetV, v = r4.val ∧ -- (box.Span).set
    CallV Tryz.prog 120 #[r1.val, r3.val] V4 fun v V5 => ∃ r5 : SetV, v = r5.val ∧ -- (box.set).mul
    CallV Tryz.prog 120 #[r2.val, r4.val] V5 fun v V6 => ∃ r6 : SetV, v = r6.val ∧ -- (box.set).mul
    CallV Tryz.prog 102 #[r6.val] V6 fun v V7 => ∃ r7 : SetV, v = r7.val ∧ -- (box.set).neg
    CallV Tryz.prog 121 #[r5.val, r7.val] V7 fun v V8 => ∃ r8 : SetV, v = r8.val ∧ -- (box.set).add
    CallV Tryz.prog 101 #[r8.val] V8 fun v V9 => ∃ r9 : SpV, v = r9.val ∧ -- (box.set).span
    CallV Tryz.prog 120 #[r1.val, r4.val] V9 fun v V10 => ∃ r10 : SetV, v = r10.val ∧ -- (box.set).mul
    CallV Tryz.prog 120 #[r2.val, r3.val] V10 fun v V11 => ∃ r11 : SetV, v = r11.val ∧ -- (box.set).mul
    CallV Tryz.prog 121 #[r10.val, r11.val] V11 fun v V12 => ∃ r12 : SetV, v = r12.val ∧ -- (box.set).add
    CallV Tryz.prog 101 #[r12.val] V12 fun v V13 => ∃ r13 : SpV, v = r13.val ∧ -- (box.set).span
    R ((BoxV.mk r9 r13).val) V13) :
  CallV Tryz.prog 41 #[p0.val, p1.val] V R :=
  calls_of_vc (Shp := Shp) hmixed Tryz.func41 (c := Tryz.f41.body.getD .skip) (args := [p0.val, p1.val]) (by kernel_rfl)
    (.seq (.reg [⟨2, 3, false⟩, ⟨3, 3, false⟩, ⟨4, 3, false⟩]) (.seq (.draw [(0, ⟨9, 7, false⟩), (1, ⟨2, 4, false⟩), (3, ⟨12, 7, false⟩), (4, ⟨2, 4, false⟩), (6, ⟨15, 7, false⟩), (7, ⟨3, 4, false⟩), (9, ⟨18, 7, false⟩), (10, ⟨3, 4, false⟩), (12, ⟨5, 3, false⟩), (13, ⟨6, 3, false⟩), (14, ⟨7, 3, false⟩), (15, ⟨8, 3, false⟩), (2, ⟨11, 10, false⟩), (5, ⟨14, 10, false⟩), (8, ⟨17, 10, false⟩), (11, ⟨20, 10, false⟩), (16, ⟨5, 6, false⟩), (17, ⟨6, 6, false⟩), (18, ⟨7, 6, false⟩), (19, ⟨8, 6, false⟩)] [0, 1, 3, 0, 8, 31, 0, 64, 255, 0, 512, 2047, 0, 0, 0, 0, 65535, 131071, 262143, 524287]) (.seq (.draw [(0, ⟨5, 4, false⟩), (1, ⟨7, 4, false⟩), (3, ⟨6, 4, false⟩), (4, ⟨8, 4, false⟩), (9, ⟨5, 4, false⟩), (10, ⟨8, 4, false⟩), (12, ⟨6, 4, false⟩), (13, ⟨7, 4, false⟩), (2, ⟨23, 10, false⟩), (5, ⟨26, 10, false⟩), (6, ⟨27, 10, false⟩), (7, ⟨28, 10, false⟩), (8, ⟨29, 10, false⟩), (11, ⟨32, 10, false⟩), (14, ⟨35, 10, false⟩), (15, ⟨36, 10, false⟩), (16, ⟨37, 10, false⟩), (17, ⟨38, 0, false⟩), (18, ⟨4, 6, false⟩)] [0, 0, 3, 0, 0, 31, 63, 127, 255, 0, 0, 2047, 0, 0, 16383, 32767, 65535, 131071, 262143]) .leaf)))
    (Eq.mpr (by kernel_rfl) h)

/-- (waveport/box.Box).In -/
theorem Box_In_vc (p0 : BoxV) (p1 : BoxV) (V : View) (R : Value → View → Prop) 
  (h :
    CallV Tryz.prog 63 #[p0.re.val, p1.re.val] V fun v V1 => ∃ r1 : Bool, v = .bool r1 ∧ -- (box.Span).In
    (r1 = true →
    CallV Tryz.prog 63 #[p0.im.val, p1.im.val] V1 fun v V2 => ∃ r2 : Bool, v = .bool r2 ∧ -- (box.Span).In
    R (.bool r2) V2) ∧
    (r1 = false →
    R (.bool false) V1)) :
  CallV Tryz.prog 51 #[p0.val, p1.val] V R :=
  calls_of_vc (Shp := Shp) hmixed Tryz.func51 (c := Tryz.f51.body.getD .skip) (args := [p0.val, p1.val]) (by kernel_rfl)
    (.seq (.reg [⟨2, 3, false⟩, ⟨3, 3, false⟩, ⟨4, 9, false⟩]) (.seq (.reg [⟨5, 7, false⟩, ⟨2, 4, false⟩, ⟨7, 7, false⟩, ⟨3, 4, false⟩, ⟨9, 10, false⟩, ⟨10, 2, true⟩, ⟨11, 7, false⟩, ⟨2, 4, false⟩, ⟨13, 7, false⟩, ⟨3, 4, false⟩, ⟨15, 10, false⟩, ⟨16, 20, false⟩, ⟨4, 2, false⟩]) .leaf))
    (Eq.mpr (by kernel_rfl) h)

/-- (waveport/box.Box).Meet -/
theorem Box_Meet_vc (p0 : BoxV) (p1 : BoxV) (V : View) (R : Value → View → Prop) 
  (h :
    CallV Tryz.prog 126 #[p0.re.val, p1.re.val] V fun v V1 => ∃ (r1 : SpV) (r2 : Bool), v = .tuple #[r1.val, .bool r2] ∧ -- box.meet
    CallV Tryz.prog 126 #[p0.im.val, p1.im.val] V1 fun v V2 => ∃ (r3 : SpV) (r4 : Bool), v = .tuple #[r3.val, .bool r4] ∧ -- box.meet
    ((!r2) = true →
    R (.tuple #[(BoxV.mk (SpV.mk 0 0) (SpV.mk 0 0)).val, .bool false]) V2) ∧
    ((!r2) = false →
    ((!r4) = true →
      R (.tuple #[(BoxV.mk (SpV.mk 0 0) (SpV.mk 0 0)).val, .bool false]) V2) ∧
    ((!r4) = false →
      R (.tuple #[(BoxV.mk r1 r3).val, .bool true]) V2))) :
  CallV Tryz.prog 45 #[p0.val, p1.val] V R :=
  calls_of_vc (Shp := Shp) hmixed Tryz.func45 (c := Tryz.f45.body.getD .skip) (args := [p0.val, p1.val]) (by kernel_rfl)
    (.seq (.reg [⟨2, 3, false⟩, ⟨3, 3, false⟩, ⟨4, 3, false⟩, ⟨5, 9, false⟩]) (.seq (.reg [⟨11, 7, false⟩, ⟨2, 4, false⟩, ⟨13, 7, false⟩, ⟨3, 4, false⟩, ⟨15, 10, false⟩, ⟨10, 2, false⟩, ⟨16, 0, false⟩, ⟨17, 0, false⟩, ⟨6, 3, false⟩, ⟨6, 6, false⟩, ⟨7, 2, false⟩]) (.seq (.reg [⟨19, 7, false⟩, ⟨2, 4, false⟩, ⟨21, 7, false⟩, ⟨3, 4, false⟩, ⟨23, 10, false⟩, ⟨18, 2, false⟩, ⟨24, 0, false⟩, ⟨25, 0, false⟩, ⟨8, 3, false⟩, ⟨8, 6, false⟩, ⟨9, 2, false⟩]) (.seq (.seq (.reg [⟨26, 2, false⟩, ⟨27, 20, false⟩, ⟨28, 2, true⟩, ⟨29, 2, false⟩, ⟨30, 20, false⟩, ⟨31, 20, false⟩]) (.cond (.seq (.reg [⟨32, 0, false⟩, ⟨4, 6, false⟩, ⟨5, 9, false⟩]) .leaf) .leaf)) (.seq (.reg [⟨6, 4, false⟩, ⟨8, 4, false⟩, ⟨35, 0, false⟩, ⟨4, 6, false⟩, ⟨5, 9, false⟩]) .leaf)))))
    (Eq.mpr (by kernel_rfl) h)

end Go.Proofs.YtkibfmnkkiakoaaGreat
