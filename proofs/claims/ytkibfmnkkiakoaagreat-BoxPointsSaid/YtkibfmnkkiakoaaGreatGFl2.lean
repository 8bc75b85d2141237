/- Part of the proof; it has the parts GFl2. -/
import Derived.Test.YtkibfmnkkiakoaaGreatGFl3
set_option maxRecDepth 100000
set_option maxHeartbeats 4000000
namespace Go.Proofs.YtkibfmnkkiakoaaGreat
open Go Go.Vc Go.Proofs

/-- waveport/num.finite -/
theorem num_finite_vc (p0 : Nat) (V : View) (R : Value → View → Prop) 
  (h :
    CallV Tryz.prog 206 #[.float .f64 p0] V fun v V1 => ∃ r1 : Bool, v = .bool r1 ∧ -- math.IsNaN
    ((!r1) = true →
    CallV Tryz.prog 200 #[.float .f64 p0, .int .i64 0] V1 fun v V2 => ∃ r2 : Bool, v = .bool r2 ∧ -- math.IsInf
    R (.bool (!r2)) V2) ∧
    ((!r1) = false →
    R (.bool false) V1)) :
  CallV Tryz.prog 135 #[.float .f64 p0] V R :=
  calls_of_vc (Shp := Shp) hmixed Tryz.func135 (c := Tryz.f135.body.getD .skip) (args := [.float .f64 p0]) (by kernel_rfl)
    (.seq (.reg [⟨2, 9, false⟩]) (.seq (.reg [⟨3, 2, false⟩, ⟨4, 10, false⟩, ⟨5, 20, false⟩, ⟨6, 2, true⟩, ⟨7, 2, false⟩, ⟨8, 10, false⟩, ⟨9, 20, false⟩, ⟨10, 20, false⟩, ⟨2, 2, false⟩]) .leaf))
    (Eq.mpr (by kernel_rfl) h)

/-- waveport/num.split -/
theorem num_split_vc (p0 : Nat) (V : View) (R : Value → View → Prop) 
  (h :
    ∃ e1 : Int, ExtVal Tryz.prog 182 #[.float .f64 p0] (.int .u64 e1) ∧ -- math.Float64bits
    ((decide (((IntKind.i64.wrap (IntKind.u64.wrap (BitVec.toNat ((BitVec.ofInt IntKind.u64.bits (Int.fdiv e1 (2 ^ (min (Int.toNat 52) (IntKind.u64.bits))))) &&& (BitVec.ofInt IntKind.u64.bits 2047))))) : Int) > 0)) = true →
      CallV Tryz.prog 207 #[.int .u64 (IntKind.u64.wrap (BitVec.toNat ((BitVec.ofInt IntKind.u64.bits (IntKind.u64.wrap (BitVec.toNat ((BitVec.ofInt IntKind.u64.bits e1) &&& (BitVec.ofInt IntKind.u64.bits 4503599627370495))))) ||| (BitVec.ofInt IntKind.u64.bits 4503599627370496))))] V fun v V1 => ∃ r1 : Sl, v = r1.v ∧ -- num.natOf
    CallV Tryz.prog 138 #[.bool (((Int.fdiv e1 (2 ^ (min (Int.toNat 63) (IntKind.u64.bits)))) : Int) == 1), r1.v] V1 fun v V2 => ∃ r2 : WhV, v = r2.val ∧ -- num.wholeOf
    R (.tuple #[r2.val, .int .i64 (IntKind.i64.wrap ((if (1 : Int) > (IntKind.i64.wrap (IntKind.u64.wrap (BitVec.toNat ((BitVec.ofInt IntKind.u64.bits (Int.fdiv e1 (2 ^ (min (Int.toNat 52) (IntKind.u64.bits))))) &&& (BitVec.ofInt IntKind.u64.bits 2047))))) then 1 else (IntKind.i64.wrap (IntKind.u64.wrap (BitVec.toNat ((BitVec.ofInt IntKind.u64.bits (Int.fdiv e1 (2 ^ (min (Int.toNat 52) (IntKind.u64.bits))))) &&& (BitVec.ofInt IntKind.u64.bits 2047)))))) - 1075))]) V2) ∧
    ((decide (((IntKind.i64.wrap (IntKind.u64.wrap (BitVec.toNat ((BitVec.ofInt IntKind.u64.bits (Int.fdiv e1 (2 ^ (min (Int.toNat 52) (IntKind.u64.bits))))) &&& (BitVec.ofInt IntKind.u64.bits 2047))))) : Int) > 0)) = false →
      CallV Tryz.prog 207 #[.int .u64 (IntKind.u64.wrap (BitVec.toNat ((BitVec.ofInt IntKind.u64.bits e1) &&& (BitVec.ofInt IntKind.u64.bits 4503599627370495))))] V fun v V3 => ∃ r3 : Sl, v = r3.v ∧ -- num.natOf
    CallV Tryz.prog 138 #[.bool (((Int.fdiv e1 (2 ^ (min (Int.toNat 63) (IntKind.u64.bits)))) : Int) == 1), r3.v] V3 fun v V4 => ∃ r4 : WhV, v = r4.val ∧ -- num.wholeOf
    R (.tuple #[r4.val, .int .i64 (IntKind.i64.wrap ((if (1 : Int) > (IntKind.i64.wrap (IntKind.u64.wrap (BitVec.toNat ((BitVec.ofInt IntKind.u64.bits (Int.fdiv e1 (2 ^ (min (Int.toNat 52) (IntKind.u64.bits))))) &&& (BitVec.ofInt IntKind.u64.bits 2047))))) then 1 else (IntKind.i64.wrap (IntKind.u64.wrap (BitVec.toNat ((BitVec.ofInt IntKind.u64.bits (Int.fdiv e1 (2 ^ (min (Int.toNat 52) (IntKind.u64.bits))))) &&& (BitVec.ofInt IntKind.u64.bits 2047)))))) - 1075))]) V4)) :
  CallV Tryz.prog 136 #[.float .f64 p0] V R :=
  calls_of_vc (Shp := Shp) hmixed Tryz.func136 (c := Tryz.f136.body.getD .skip) (args := [.float .f64 p0]) (by kernel_rfl)
    (.seq (.reg [⟨2, 3, false⟩, ⟨3, 2, false⟩]) (.seq (.reg [⟨7, 2, false⟩, ⟨8, 12, false⟩, ⟨4, 2, false⟩]) (.seq (.reg [⟨9, 2, false⟩, ⟨10, 0, false⟩, ⟨11, 2, false⟩, ⟨12, 0, false⟩, ⟨13, 0, false⟩, ⟨14, 0, false⟩, ⟨5, 2, false⟩, ⟨6, 2, false⟩]) (.seq (.seq (.reg [⟨15, 2, false⟩, ⟨16, 0, false⟩]) (.cond (.reg [⟨17, 2, false⟩, ⟨18, 0, false⟩, ⟨5, 2, false⟩]) .leaf)) (.seq (.reg [⟨19, 2, false⟩, ⟨20, 0, false⟩, ⟨21, 0, false⟩, ⟨22, 2, false⟩, ⟨23, 10, false⟩, ⟨24, 10, false⟩, ⟨25, 2, false⟩, ⟨26, 0, false⟩, ⟨27, 0, false⟩, ⟨2, 6, false⟩, ⟨3, 2, false⟩]) .leaf)))))
    (Eq.mpr (by kernel_rfl) h)

/-- waveport/num.Complex -/
theorem num_Complex_vc (p0 : CxV) (V : View) (R : Value → View → Prop) 
  (h :
    CallV Tryz.prog 135 #[.float .f64 p0.re] V fun v V1 => ∃ r1 : Bool, v = .bool r1 ∧ -- num.finite
    ((!r1) = true →
    R (.tuple #[(NumV.mk (WhV.mk false (Sl.mk none 0 0)) (WhV.mk false (Sl.mk none 0 0)) (Sl.mk none 0 0)).val, .int .i64 1]) V1) ∧
    ((!r1) = false →
    CallV Tryz.prog 135 #[.float .f64 p0.im] V1 fun v V2 => ∃ r2 : Bool, v = .bool r2 ∧ -- num.finite
    ((!r2) = true →
      R (.tuple #[(NumV.mk (WhV.mk false (Sl.mk none 0 0)) (WhV.mk false (Sl.mk none 0 0)) (Sl.mk none 0 0)).val, .int .i64 1]) V2) ∧
    ((!r2) = false →
      CallV Tryz.prog 136 #[.float .f64 p0.re] V2 fun v V3 => ∃ (r3 : WhV) (r4 : Int), v = .tuple #[r3.val, .int .i64 r4] ∧ -- num.split
    CallV Tryz.prog 136 #[.float .f64 p0.im] V3 fun v V4 => ∃ (r5 : WhV) (r6 : Int), v = .tuple #[r5.val, .int .i64 r6] ∧ -- num.split
    CallV Tryz.prog 139 #[r3.mag.v, .int .i64 (IntKind.i64.wrap (r4 + (if ((IntKind.i64.wrap (0 - r6)) : Int) > (if ((IntKind.i64.wrap (0 - r4)) : Int) > 0 then (IntKind.i64.wrap (0 - r4)) else 0) then (IntKind.i64.wrap (0 - r6)) else (if ((IntKind.i64.wrap (0 - r4)) : Int) > 0 then (IntKind.i64.wrap (0 - r4)) else 0))))] V4 fun v V5 => ∃ r7 : Sl, v = r7.v ∧ -- (num.nat).shl
    CallV Tryz.prog 138 #[.bool r3.neg, r7.v] V5 fun v V6 => ∃ r8 : WhV, v = r8.val ∧ -- num.wholeOf
    CallV Tryz.prog 139 #[r5.mag.v, .int .i64 (IntKind.i64.wrap (r6 + (if ((IntKind.i64.wrap (0 - r6)) : Int) > (if ((IntKind.i64.wrap (0 - r4)) : Int) > 0 then (IntKind.i64.wrap (0 - r4)) else 0) then (IntKind.i64.wrap (0 - r6)) else (if ((IntKind.i64.wrap (0 - r4)) : Int) > 0 then (IntKind.i64.wrap (0 - r4)) else 0))))] V6 fun v V7 => ∃ r9 : Sl, v = r9.v ∧ -- (num.nat).shl
    CallV Tryz.prog 138 #[.bool r5.neg, r9.v] V7 fun v V8 => ∃ r10 : WhV, v = r10.val ∧ -- num.wholeOf
    ∀ (b1 : Nat) (V9 : View), View.le V8 V9 → View.Fin V9 → V9 b1 = some #[.int .u32 1] →
    CallV Tryz.prog 139 #[(Sl.mk (some (Addr.mk b1 0 none)) 1 1).v, .int .i64 (if ((IntKind.i64.wrap (0 - r6)) : Int) > (if ((IntKind.i64.wrap (0 - r4)) : Int) > 0 then (IntKind.i64.wrap (0 - r4)) else 0) then (IntKind.i64.wrap (0 - r6)) else (if ((IntKind.i64.wrap (0 - r4)) : Int) > 0 then (IntKind.i64.wrap (0 - r4)) else 0))] V9 fun v V10 => ∃ r11 : Sl, v = r11.v ∧ -- (num.nat).shl
    CallV Tryz.prog 137 #[r8.val, r10.val, r11.v] V10 fun v V11 => ∃ r12 : NumV, v = r12.val ∧ -- num.over
    R (.tuple #[r12.val, .int .i64 0]) V11))) :
  CallV Tryz.prog 56 #[.complex .f64 p0.re p0.im] V R :=
  calls_of_vc (Shp := Shp) hmixed Tryz.func56 (c := Tryz.f56.body.getD .skip) (args := [.complex .f64 p0.re p0.im]) (by kernel_rfl)
    (.seq (.reg [⟨2, 3, false⟩, ⟨3, 2, false⟩]) (.seq (.seq (.reg [⟨9, 2, false⟩, ⟨10, 0, false⟩, ⟨11, 10, false⟩, ⟨12, 20, false⟩, ⟨13, 2, true⟩, ⟨14, 2, false⟩, ⟨15, 0, false⟩, ⟨16, 10, false⟩, ⟨17, 20, false⟩, ⟨18, 20, false⟩]) (.cond (.seq (.reg [⟨19, 0, false⟩, ⟨2, 6, false⟩, ⟨3, 2, false⟩]) .leaf) .leaf)) (.seq (.reg [⟨21, 2, false⟩, ⟨22, 0, false⟩, ⟨23, 10, false⟩, ⟨20, 2, false⟩, ⟨24, 0, false⟩, ⟨25, 0, false⟩, ⟨4, 3, false⟩, ⟨4, 6, false⟩, ⟨5, 2, false⟩]) (.seq (.reg [⟨27, 2, false⟩, ⟨28, 0, false⟩, ⟨29, 10, false⟩, ⟨26, 2, false⟩, ⟨30, 0, false⟩, ⟨31, 0, false⟩, ⟨6, 3, false⟩, ⟨6, 6, false⟩, ⟨7, 2, false⟩]) (.seq (.reg [⟨32, 2, false⟩, ⟨33, 0, false⟩, ⟨34, 2, false⟩, ⟨35, 0, false⟩, ⟨36, 0, false⟩, ⟨8, 2, false⟩]) (.seq (.draw [(0, ⟨37, 7, false⟩), (1, ⟨4, 4, false⟩), (2, ⟨39, 7, false⟩), (3, ⟨4, 4, false⟩), (4, ⟨41, 2, false⟩), (5, ⟨42, 2, false⟩), (6, ⟨43, 0, false⟩), (9, ⟨46, 7, false⟩), (10, ⟨6, 4, false⟩), (11, ⟨48, 7, false⟩), (12, ⟨6, 4, false⟩), (13, ⟨50, 2, false⟩), (14, ⟨51, 2, false⟩), (15, ⟨52, 0, false⟩), (19, ⟨56, 2, false⟩), (7, ⟨44, 10, false⟩), (8, ⟨45, 10, false⟩), (16, ⟨53, 10, false⟩), (17, ⟨54, 10, false⟩), (18, ⟨55, 11, false⟩), (20, ⟨57, 10, false⟩), (21, ⟨58, 10, false⟩), (22, ⟨2, 6, false⟩), (23, ⟨3, 2, false⟩)] [0, 1, 0, 4, 0, 0, 48, 124, 255, 0, 512, 0, 2048, 0, 0, 24576, 63999, 131071, 0, 0, 1048575, 2097151, 4194303, 8388607]) .leaf))))))
    (Eq.mpr (by kernel_rfl) h)

/-- waveport/num.double -/
theorem num_double_vc  (V : View) (R : Value → View → Prop) 
  (h :
    R ((FormV.mk 53 (-1074) 1023).val) V) :
  CallV Tryz.prog 140 #[] V R :=
  calls_of_vc (Shp := Shp) hmixed Tryz.func140 (c := Tryz.f140.body.getD .skip) (args := []) (by kernel_rfl)
    (.seq (.reg [⟨0, 3, false⟩]) (.seq (.reg [⟨1, 0, false⟩, ⟨0, 6, false⟩]) .leaf))
    (Eq.mpr (by kernel_rfl) h)

/-- (waveport/num.Num).Re -/
theorem Num_Re_vc (p0 : NumV) (V : View) (R : Value → View → Prop) 
  (h :
    CallV Tryz.prog 142 #[p0.val] V fun v V1 => ∃ r1 : Sl, v = r1.v ∧ -- (num.Num).den
    CallV Tryz.prog 137 #[p0.re.val, (WhV.mk false (Sl.mk none 0 0)).val, r1.v] V1 fun v V2 => ∃ r2 : NumV, v = r2.val ∧ -- num.over
    R (r2.val) V2) :
  CallV Tryz.prog 128 #[p0.val] V R :=
  calls_of_vc (Shp := Shp) hmixed Tryz.func128 (c := Tryz.f128.body.getD .skip) (args := [p0.val]) (by kernel_rfl)
    (.seq (.reg [⟨1, 3, false⟩, ⟨2, 3, false⟩]) (.seq (.draw [(0, ⟨3, 7, false⟩), (1, ⟨1, 4, false⟩), (2, ⟨5, 0, false⟩), (3, ⟨1, 4, false⟩), (4, ⟨7, 10, false⟩), (5, ⟨8, 10, false⟩), (6, ⟨2, 6, false⟩)] [0, 1, 0, 0, 8, 31, 63]) .leaf))
    (Eq.mpr (by kernel_rfl) h)

/-- (waveport/num.Num).Im -/
theorem Num_Im_vc (p0 : NumV) (V : View) (R : Value → View → Prop) 
  (h :
    CallV Tryz.prog 142 #[p0.val] V fun v V1 => ∃ r1 : Sl, v = r1.v ∧ -- (num.Num).den
    CallV Tryz.prog 137 #[p0.im.val, (WhV.mk false (Sl.mk none 0 0)).val, r1.v] V1 fun v V2 => ∃ r2 : NumV, v = r2.val ∧ -- num.over
    R (r2.val) V2) :
  CallV Tryz.prog 129 #[p0.val] V R :=
  calls_of_vc (Shp := Shp) hmixed Tryz.func129 (c := Tryz.f129.body.getD .skip) (args := [p0.val]) (by kernel_rfl)
    (.seq (.reg [⟨1, 3, false⟩, ⟨2, 3, false⟩]) (.seq (.draw [(0, ⟨3, 7, false⟩), (1, ⟨1, 4, false⟩), (2, ⟨5, 0, false⟩), (3, ⟨1, 4, false⟩), (4, ⟨7, 10, false⟩), (5, ⟨8, 10, false⟩), (6, ⟨2, 6, false⟩)] [0, 1, 0, 0, 8, 31, 63]) .leaf))
    (Eq.mpr (by kernel_rfl) h)

/-- (waveport/num.Num).Clear -/
theorem Num_Clear_vc (p0 : NumV) (V : View) (R : Value → View → Prop) 
  (h :
    R (.bool (decide (((IntKind.i64.wrap ((p0.re.mag.len : Int) + (p0.im.mag.len : Int))) : Int) > 0))) V) :
  CallV Tryz.prog 176 #[p0.val] V R :=
  calls_of_vc (Shp := Shp) hmixed Tryz.func176 (c := Tryz.f176.body.getD .skip) (args := [p0.val]) (by kernel_rfl)
    (.seq (.reg [⟨1, 3, false⟩, ⟨2, 9, false⟩]) (.seq (.reg [⟨3, 7, false⟩, ⟨4, 7, false⟩, ⟨1, 4, false⟩, ⟨6, 0, false⟩, ⟨7, 7, false⟩, ⟨8, 7, false⟩, ⟨1, 4, false⟩, ⟨10, 0, false⟩, ⟨11, 0, false⟩, ⟨12, 0, false⟩, ⟨2, 2, false⟩]) .leaf))
    (Eq.mpr (by kernel_rfl) h)

/-- (waveport/num.Num).Div -/
theorem Num_Div_vc (p0 : NumV) (p1 : NumV) (V : View) (R : Value → View → Prop) 
  (h :
    CallV Tryz.prog 176 #[p1.val] V fun v V1 => ∃ r1 : Bool, v = .bool r1 ∧ -- (num.Num).Clear
    ((!r1) = true →
      R (.tuple #[(NumV.mk (WhV.mk false (Sl.mk none 0 0)) (WhV.mk false (Sl.mk none 0 0)) (Sl.mk none 0 0)).val, .int .i64 3]) V1) ∧
    ((!r1) = false →
      CallV Tryz.prog 177 #[p1.re.val, p1.re.val] V1 fun v V2 => ∃ r2 : WhV, v = r2.val ∧ -- (num.whole).times
    CallV Tryz.prog 177 #[p1.im.val, p1.im.val] V2 fun v V3 => ∃ r3 : WhV, v = r3.val ∧ -- (num.whole).times
    CallV Tryz.prog 162 #[r2.val, r3.val] V3 fun v V4 => ∃ r4 : WhV, v = r4.val ∧ -- (num.whole).plus
    CallV Tryz.prog 178 #[p1.im.val] V4 fun v V5 => ∃ r5 : WhV, v = r5.val ∧ -- (num.whole).minus
    ∀ (b1 : Nat) (V6 : View), View.le V5 V6 → View.Fin V6 → V6 b1 = some #[.int .u32 1] →
    CallV Tryz.prog 137 #[p1.re.val, r5.val, (Sl.mk (some (Addr.mk b1 0 none)) 1 1).v] V6 fun v V7 => ∃ r6 : NumV, v = r6.val ∧ -- num.over
    CallV Tryz.prog 91 #[p0.val, r6.val] V7 fun v V8 => ∃ r7 : NumV, v = r7.val ∧ -- (num.Num).Mul
    CallV Tryz.prog 142 #[p1.val] V8 fun v V9 => ∃ r8 : Sl, v = r8.v ∧ -- (num.Num).den
    CallV Tryz.prog 161 #[r7.re.val, r8.v] V9 fun v V10 => ∃ r9 : WhV, v = r9.val ∧ -- (num.whole).scaled
    CallV Tryz.prog 142 #[p1.val] V10 fun v V11 => ∃ r10 : Sl, v = r10.v ∧ -- (num.Num).den
    CallV Tryz.prog 161 #[r7.im.val, r10.v] V11 fun v V12 => ∃ r11 : WhV, v = r11.val ∧ -- (num.whole).scaled
    CallV Tryz.prog 142 #[r7.val] V12 fun v V13 => ∃ r12 : Sl, v = r12.v ∧ -- (num.Num).den
    CallV Tryz.prog 163 #[r12.v, r4.mag.v] V13 fun v V14 => ∃ r13 : Sl, v = r13.v ∧ -- (num.nat).mul
    CallV Tryz.prog 137 #[r9.val, r11.val, r13.v] V14 fun v V15 => ∃ r14 : NumV, v = r14.val ∧ -- num.over
    R (.tuple #[r14.val, .int .i64 0]) V15)) :
  CallV Tryz.prog 89 #[p0.val, p1.val] V R :=
  calls_of_vc (Shp := Shp) hmixed Tryz.func89 (c := Tryz.f89.body.getD .skip) (args := [p0.val, p1.val]) (by kernel_rfl)
    (.seq (.reg [⟨2, 3, false⟩, ⟨3, 3, false⟩, ⟨4, 3, false⟩, ⟨5, 2, false⟩]) (.seq (.seq (.reg [⟨3, 4, false⟩, ⟨9, 10, false⟩, ⟨10, 20, false⟩]) (.cond (.seq (.reg [⟨11, 0, false⟩, ⟨4, 6, false⟩, ⟨5, 2, false⟩]) .leaf) .leaf)) (.seq (.draw [(0, ⟨12, 7, false⟩), (1, ⟨3, 4, false⟩), (2, ⟨14, 7, false⟩), (3, ⟨3, 4, false⟩), (5, ⟨17, 7, false⟩), (6, ⟨3, 4, false⟩), (7, ⟨19, 7, false⟩), (8, ⟨3, 4, false⟩), (11, ⟨6, 3, false⟩), (4, ⟨16, 10, false⟩), (9, ⟨21, 10, false⟩), (10, ⟨22, 10, false⟩), (12, ⟨6, 6, false⟩)] [0, 1, 0, 4, 15, 0, 32, 0, 128, 511, 1023, 0, 4095]) (.seq (.draw [(0, ⟨2, 4, false⟩), (1, ⟨24, 7, false⟩), (2, ⟨3, 4, false⟩), (3, ⟨26, 7, false⟩), (4, ⟨3, 4, false⟩), (9, ⟨7, 3, false⟩), (5, ⟨28, 10, false⟩), (6, ⟨29, 11, false⟩), (7, ⟨30, 10, false⟩), (8, ⟨31, 10, false⟩), (10, ⟨7, 6, false⟩)] [0, 0, 2, 0, 8, 24, 0, 126, 255, 0, 1023]) (.seq (.draw [(0, ⟨32, 7, false⟩), (1, ⟨7, 4, false⟩), (2, ⟨3, 4, false⟩), (5, ⟨37, 7, false⟩), (6, ⟨7, 4, false⟩), (7, ⟨3, 4, false⟩), (10, ⟨7, 4, false⟩), (12, ⟨44, 7, false⟩), (13, ⟨6, 4, false⟩), (3, ⟨35, 10, false⟩), (4, ⟨36, 10, false⟩), (8, ⟨40, 10, false⟩), (9, ⟨41, 10, false⟩), (11, ⟨43, 10, false⟩), (14, ⟨46, 10, false⟩), (15, ⟨47, 10, false⟩), (16, ⟨4, 6, false⟩), (17, ⟨5, 2, false⟩)] [0, 1, 0, 4, 15, 0, 32, 0, 159, 511, 0, 2047, 0, 4096, 16383, 32767, 65535, 131071]) .leaf)))))
    (Eq.mpr (by kernel_rfl) h)

end Go.Proofs.YtkibfmnkkiakoaaGreat
