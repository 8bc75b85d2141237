/- Part of the proof; it has the parts GBl2. -/
import Derived.Test.YtcapadojlaojkaaGreatFNum1
set_option maxRecDepth 100000
set_option maxHeartbeats 4000000
namespace Go.Proofs.YtcapadojlaojkaaGreat
open Go Go.Vc Go.Proofs

/-- waveport/waveportref02.Make -/
theorem ref2_Make_vc (p0 : CxV) (p1 : CxV) (V : View) (R : Value → View → Prop) 
  (h :
    CallV Tryz.prog 72 #[.float .f64 p0.re, .float .f64 p1.re] V fun v V1 => ∃ (r1 : SpV) (r2 : Int), v = .tuple #[r1.val, .int .i64 r2] ∧ -- waveportref02.MakeSpan
    CallV Tryz.prog 72 #[.float .f64 p0.im, .float .f64 p1.im] V1 fun v V2 => ∃ (r3 : SpV) (r4 : Int), v = .tuple #[r3.val, .int .i64 r4] ∧ -- waveportref02.MakeSpan
    (((r2 : Int) == 1) = true →
    R (.tuple #[(BoxV.mk (SpV.mk 0 0) (SpV.mk 0 0)).val, .int .i64 1]) V2) ∧
    (((r2 : Int) == 1) = false →
    (((r4 : Int) == 1) = true →
      R (.tuple #[(BoxV.mk (SpV.mk 0 0) (SpV.mk 0 0)).val, .int .i64 1]) V2) ∧
    (((r4 : Int) == 1) = false →
      (((r2 : Int) != 0) = true →
    R (.tuple #[(BoxV.mk (SpV.mk 0 0) (SpV.mk 0 0)).val, .int .i64 7]) V2) ∧
    (((r2 : Int) != 0) = false →
    (((r4 : Int) != 0) = true →
      R (.tuple #[(BoxV.mk (SpV.mk 0 0) (SpV.mk 0 0)).val, .int .i64 7]) V2) ∧
    (((r4 : Int) != 0) = false →
      R (.tuple #[(BoxV.mk r1 r3).val, .int .i64 0]) V2))))) :
  CallV Tryz.prog 13 #[.complex .f64 p0.re p0.im, .complex .f64 p1.re p1.im] V R :=
  calls_of_vc (Shp := Shp) hmixed Tryz.func13 (c := Tryz.f13.body.getD .skip) (args := [.complex .f64 p0.re p0.im, .complex .f64 p1.re p1.im]) (by kernel_rfl)
    (.seq (.reg [⟨4, 3, false⟩, ⟨5, 2, false⟩]) (.seq (.reg [⟨11, 2, false⟩, ⟨12, 0, false⟩, ⟨13, 2, false⟩, ⟨14, 0, false⟩, ⟨15, 10, false⟩, ⟨10, 2, false⟩, ⟨16, 0, false⟩, ⟨17, 0, false⟩, ⟨6, 3, false⟩, ⟨6, 6, false⟩, ⟨7, 2, false⟩]) (.seq (.reg [⟨19, 2, false⟩, ⟨20, 0, false⟩, ⟨21, 2, false⟩, ⟨22, 0, false⟩, ⟨23, 10, false⟩, ⟨18, 2, false⟩, ⟨24, 0, false⟩, ⟨25, 0, false⟩, ⟨8, 3, false⟩, ⟨8, 6, false⟩, ⟨9, 2, false⟩]) (.seq (.seq (.reg [⟨26, 2, false⟩, ⟨27, 0, false⟩, ⟨28, 2, true⟩, ⟨29, 2, false⟩, ⟨30, 0, false⟩, ⟨31, 20, false⟩]) (.cond (.seq (.reg [⟨32, 0, false⟩, ⟨4, 6, false⟩, ⟨5, 2, false⟩]) .leaf) .leaf)) (.seq (.seq (.reg [⟨33, 2, false⟩, ⟨34, 0, false⟩, ⟨35, 2, true⟩, ⟨36, 2, false⟩, ⟨37, 0, false⟩, ⟨38, 20, false⟩]) (.cond (.seq (.reg [⟨39, 0, false⟩, ⟨4, 6, false⟩, ⟨5, 2, false⟩]) .leaf) .leaf)) (.seq (.reg [⟨6, 4, false⟩, ⟨8, 4, false⟩, ⟨42, 0, false⟩, ⟨4, 6, false⟩, ⟨5, 2, false⟩]) .leaf))))))
    (Eq.mpr (by kernel_rfl) h)

/-- waveport/waveportlaw02.Is -/
theorem law2_Is_vc (p0 : BoxV) (p1 : BoxV) (V : View) (R : Value → View → Prop) 
  (h :
    CallV Tryz.prog 34 #[p0.val] V fun v V1 => ∃ r1 : CxV, v = .complex .f64 r1.re r1.im ∧ -- (box.Box).Lo
    CallV Tryz.prog 73 #[.float .f64 r1.re, .float .f64 p1.re.lo] V1 fun v V2 => ∃ r2 : Bool, v = .bool r2 ∧ -- waveportlaw02.equal
    (r2 = true →
    CallV Tryz.prog 34 #[p0.val] V2 fun v V3 => ∃ r3 : CxV, v = .complex .f64 r3.re r3.im ∧ -- (box.Box).Lo
    CallV Tryz.prog 73 #[.float .f64 r3.im, .float .f64 p1.im.lo] V3 fun v V4 => ∃ r4 : Bool, v = .bool r4 ∧ -- waveportlaw02.equal
    (r4 = true →
    CallV Tryz.prog 35 #[p0.val] V4 fun v V5 => ∃ r5 : CxV, v = .complex .f64 r5.re r5.im ∧ -- (box.Box).Hi
    CallV Tryz.prog 73 #[.float .f64 r5.re, .float .f64 p1.re.hi] V5 fun v V6 => ∃ r6 : Bool, v = .bool r6 ∧ -- waveportlaw02.equal
    (r6 = true →
    CallV Tryz.prog 35 #[p0.val] V6 fun v V7 => ∃ r7 : CxV, v = .complex .f64 r7.re r7.im ∧ -- (box.Box).Hi
    CallV Tryz.prog 73 #[.float .f64 r7.im, .float .f64 p1.im.hi] V7 fun v V8 => ∃ r8 : Bool, v = .bool r8 ∧ -- waveportlaw02.equal
    R (.bool r8) V8) ∧
    (r6 = false →
    R (.bool false) V6)) ∧
    (r4 = false →
    R (.bool false) V4)) ∧
    (r2 = false →
    R (.bool false) V2)) :
  CallV Tryz.prog 15 #[p0.val, p1.val] V R :=
  calls_of_vc (Shp := Shp) hmixed Tryz.func15 (c := Tryz.f15.body.getD .skip) (args := [p0.val, p1.val]) (by kernel_rfl)
    (.seq (.reg [⟨2, 3, false⟩, ⟨3, 3, false⟩, ⟨4, 9, false⟩]) (.seq (.draw [(0, ⟨2, 4, false⟩), (3, ⟨8, 7, false⟩), (4, ⟨9, 7, false⟩), (5, ⟨3, 4, false⟩), (1, ⟨6, 10, false⟩), (2, ⟨7, 0, false⟩), (6, ⟨11, 10, false⟩), (7, ⟨12, 2, true⟩), (8, ⟨2, 4, false⟩), (11, ⟨16, 7, false⟩), (12, ⟨17, 7, false⟩), (13, ⟨3, 4, false⟩), (9, ⟨14, 10, false⟩), (10, ⟨15, 0, false⟩), (14, ⟨19, 10, false⟩), (15, ⟨20, 20, false⟩), (16, ⟨21, 2, true⟩), (17, ⟨2, 4, false⟩), (20, ⟨25, 7, false⟩), (21, ⟨26, 7, false⟩), (22, ⟨3, 4, false⟩), (18, ⟨23, 10, false⟩), (19, ⟨24, 0, false⟩), (23, ⟨28, 10, false⟩), (24, ⟨29, 20, false⟩), (25, ⟨30, 2, true⟩), (26, ⟨2, 4, false⟩), (29, ⟨34, 7, false⟩), (30, ⟨35, 7, false⟩), (31, ⟨3, 4, false⟩), (27, ⟨32, 10, false⟩), (28, ⟨33, 0, false⟩), (32, ⟨37, 10, false⟩), (33, ⟨38, 20, false⟩), (34, ⟨4, 2, false⟩)] [0, 1, 3, 0, 8, 24, 63, 127, 255, 511, 1023, 255, 2303, 6399, 16383, 32767, 65535, 131071, 262143, 524287, 131071, 1179647, 3276799, 8388607, 16777215, 33554431, 67108863, 134217727, 268435455, 67108863, 603979775, 1677721599, 4294967295, 8589934591, 17179869183]) .leaf))
    (Eq.mpr (by kernel_rfl) h)

/-- waveport/waveportlaw02.BoxMakes -/
theorem law2_BoxMakes_vc (p0 : Arr4_u64) (V : View) (R : Value → View → Prop) 
  (h :
    CallV Tryz.prog 10 #[] V fun v V1 => ∃ r1 : Bool, v = .bool r1 ∧ -- waveportlaw02.awake
    ((!r1) = true →
      R (.bool false) V1) ∧
    ((!r1) = false →
      ((0 : Int) ≤ 0 ∧ (0 : Int) < ((4 : Nat) : Int)) ∧
    ((0 : Int) ≤ 1 ∧ (1 : Int) < ((4 : Nat) : Int)) ∧
    ∃ e1 : Nat, ExtVal Tryz.prog 11 #[.int .u64 p0.e0] (.float .f64 e1) ∧ -- math.Float64frombits
    ∃ e2 : Nat, ExtVal Tryz.prog 11 #[.int .u64 p0.e1] (.float .f64 e2) ∧ -- math.Float64frombits
    ((0 : Int) ≤ 2 ∧ (2 : Int) < ((4 : Nat) : Int)) ∧
    ((0 : Int) ≤ 3 ∧ (3 : Int) < ((4 : Nat) : Int)) ∧
    ∃ e3 : Nat, ExtVal Tryz.prog 11 #[.int .u64 p0.e2] (.float .f64 e3) ∧ -- math.Float64frombits
    ∃ e4 : Nat, ExtVal Tryz.prog 11 #[.int .u64 p0.e3] (.float .f64 e4) ∧ -- math.Float64frombits
    CallV Tryz.prog 12 #[.complex .f64 (CxV.mk e1 e2).re (CxV.mk e1 e2).im, .complex .f64 (CxV.mk e3 e4).re (CxV.mk e3 e4).im] V1 fun v V2 => ∃ (r2 : BoxV) (r3 : Int), v = .tuple #[r2.val, .int .i64 r3] ∧ -- box.Make
    CallV Tryz.prog 13 #[.complex .f64 (CxV.mk e1 e2).re (CxV.mk e1 e2).im, .complex .f64 (CxV.mk e3 e4).re (CxV.mk e3 e4).im] V2 fun v V3 => ∃ (r4 : BoxV) (r5 : Int), v = .tuple #[r4.val, .int .i64 r5] ∧ -- waveportref02.Make
    CallV Tryz.prog 14 #[r2.val] V3 fun v V4 => ∃ (r6 : SpV) (r7 : SpV), v = .tuple #[r6.val, r7.val] ∧ -- (box.Box).Parts
    (((r3 : Int) == r5) = true →
    CallV Tryz.prog 15 #[r2.val, r4.val] V4 fun v V5 => ∃ r8 : Bool, v = .bool r8 ∧ -- waveportlaw02.Is
    (r8 = true →
    CallV Tryz.prog 16 #[r6.val, r4.re.val] V5 fun v V6 => ∃ r9 : Bool, v = .bool r9 ∧ -- waveportlaw02.IsSpan
    (r9 = true →
    CallV Tryz.prog 16 #[r7.val, r4.im.val] V6 fun v V7 => ∃ r10 : Bool, v = .bool r10 ∧ -- waveportlaw02.IsSpan
    (r10 = true →
    CallV Tryz.prog 18 #[r6.val, r7.val] V7 fun v V8 => ∃ r11 : BoxV, v = r11.val ∧ -- box.Pair
    CallV Tryz.prog 17 #[r2.val, r11.val] V8 fun v V9 => ∃ r12 : Bool, v = .bool r12 ∧ -- (box.Box).Same
    R (.bool r12) V9) ∧
    (r10 = false →
    R (.bool false) V7)) ∧
    (r9 = false →
    R (.bool false) V6)) ∧
    (r8 = false →
    R (.bool false) V5)) ∧
    (((r3 : Int) == r5) = false →
    R (.bool false) V4))) :
  CallV Tryz.prog 3 #[p0.val] V R :=
  calls_of_vc (Shp := Shp) hmixed Tryz.func3 (c := Tryz.f3.body.getD .skip) (args := [p0.val]) (by kernel_rfl)
    (.seq (.reg [⟨1, 3, false⟩, ⟨2, 9, false⟩]) (.seq (.seq (.reg [⟨11, 10, false⟩, ⟨12, 20, false⟩]) (.cond (.seq (.reg [⟨2, 9, false⟩]) .leaf) .leaf)) (.seq (.draw [(0, ⟨13, 7, false⟩), (1, ⟨1, 4, false⟩), (3, ⟨16, 7, false⟩), (4, ⟨1, 4, false⟩), (2, ⟨15, 12, false⟩), (5, ⟨18, 12, false⟩), (6, ⟨19, 0, false⟩), (7, ⟨3, 2, false⟩)] [0, 1, 3, 0, 8, 31, 63, 127]) (.seq (.draw [(0, ⟨20, 7, false⟩), (1, ⟨1, 4, false⟩), (3, ⟨23, 7, false⟩), (4, ⟨1, 4, false⟩), (2, ⟨22, 12, false⟩), (5, ⟨25, 12, false⟩), (6, ⟨26, 0, false⟩), (7, ⟨4, 2, false⟩)] [0, 1, 3, 0, 8, 31, 63, 127]) (.seq (.reg [⟨28, 2, false⟩, ⟨29, 2, false⟩, ⟨30, 10, false⟩, ⟨27, 2, false⟩, ⟨31, 0, false⟩, ⟨32, 0, false⟩, ⟨5, 3, false⟩, ⟨5, 6, false⟩, ⟨6, 2, false⟩]) (.seq (.reg [⟨34, 2, false⟩, ⟨35, 2, false⟩, ⟨36, 10, false⟩, ⟨33, 2, false⟩, ⟨37, 0, false⟩, ⟨38, 0, false⟩, ⟨7, 3, false⟩, ⟨7, 6, false⟩, ⟨8, 2, false⟩]) (.seq (.reg [⟨5, 4, false⟩, ⟨41, 10, false⟩, ⟨39, 2, false⟩, ⟨42, 0, false⟩, ⟨43, 0, false⟩, ⟨9, 3, false⟩, ⟨10, 3, false⟩, ⟨9, 6, false⟩, ⟨10, 6, false⟩]) (.seq (.draw [(0, ⟨44, 2, false⟩), (1, ⟨45, 2, false⟩), (2, ⟨46, 0, false⟩), (3, ⟨47, 2, true⟩), (4, ⟨5, 4, false⟩), (5, ⟨7, 4, false⟩), (6, ⟨50, 10, false⟩), (7, ⟨51, 20, false⟩), (8, ⟨52, 2, true⟩), (9, ⟨9, 4, false⟩), (10, ⟨54, 7, false⟩), (11, ⟨7, 4, false⟩), (12, ⟨56, 10, false⟩), (13, ⟨57, 20, false⟩), (14, ⟨58, 2, true⟩), (15, ⟨10, 4, false⟩), (16, ⟨60, 7, false⟩), (17, ⟨7, 4, false⟩), (18, ⟨62, 10, false⟩), (19, ⟨63, 20, false⟩), (20, ⟨64, 2, true⟩), (21, ⟨5, 4, false⟩), (22, ⟨9, 4, false⟩), (23, ⟨10, 4, false⟩), (24, ⟨68, 10, false⟩), (25, ⟨69, 10, false⟩), (26, ⟨70, 20, false⟩), (27, ⟨2, 2, false⟩)] [0, 0, 3, 7, 15, 15, 63, 127, 255, 511, 511, 1535, 4095, 8191, 16383, 32767, 32767, 98303, 262143, 524287, 1048575, 2097151, 2097151, 2097151, 14680063, 33554431, 67108863, 134217727]) .leaf))))))))
    (Eq.mpr (by kernel_rfl) h)

end Go.Proofs.YtcapadojlaojkaaGreat
