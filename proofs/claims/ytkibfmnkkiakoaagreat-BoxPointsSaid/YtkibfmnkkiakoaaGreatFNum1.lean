/- Part of the proof; it has the parts FNum1. -/
import Derived.Test.YtkibfmnkkiakoaaGreatFGcd
set_option maxRecDepth 100000
set_option maxHeartbeats 4000000
namespace Go.Proofs.YtkibfmnkkiakoaaGreat
open Go Go.Vc Go.Proofs

/-- waveport/num.wholeOf -/
theorem num_wholeOf_vc (p0 : Bool) (p1 : Sl) (V : View) (R : Value → View → Prop) 
  (h :
    (p0 = true →
    R ((WhV.mk (decide (((p1.len : Int) : Int) > 0)) p1).val) V) ∧
    (p0 = false →
    R ((WhV.mk false p1).val) V)) :
  CallV Tryz.prog 138 #[.bool p0, p1.v] V R :=
  calls_of_vc (Shp := Shp) hmixed Tryz.func138 (c := Tryz.f138.body.getD .skip) (args := [.bool p0, p1.v]) (by kernel_rfl)
    (.seq (.reg [⟨4, 3, false⟩]) (.seq (.reg [⟨5, 2, false⟩, ⟨6, 2, true⟩, ⟨7, 2, false⟩, ⟨8, 0, false⟩, ⟨9, 0, false⟩, ⟨10, 2, false⟩, ⟨11, 2, false⟩, ⟨12, 0, false⟩, ⟨4, 6, false⟩]) .leaf))
    (Eq.mpr (by kernel_rfl) h)

/-- waveport/num.of64 -/
theorem num_of64_vc (p0 : Int) (V : View) (R : Value → View → Prop) 
  (h :
    ((decide ((p0 : Int) < 0)) = true →
      CallV Tryz.prog 207 #[.int .u64 (IntKind.u64.wrap (0 - (IntKind.u64.wrap p0)))] V fun v V1 => ∃ r1 : Sl, v = r1.v ∧ -- num.natOf
      R ((WhV.mk true r1).val) V1) ∧
    ((decide ((p0 : Int) < 0)) = false →
      CallV Tryz.prog 207 #[.int .u64 (IntKind.u64.wrap p0)] V fun v V2 => ∃ r2 : Sl, v = r2.v ∧ -- num.natOf
    R ((WhV.mk false r2).val) V2)) :
  CallV Tryz.prog 181 #[.int .i64 p0] V R :=
  calls_of_vc (Shp := Shp) hmixed Tryz.func181 (c := Tryz.f181.body.getD .skip) (args := [.int .i64 p0]) (by kernel_rfl)
    (.seq (.reg [⟨2, 3, false⟩]) (.seq (.seq (.reg [⟨3, 2, false⟩, ⟨4, 0, false⟩]) (.cond (.seq (.reg [⟨5, 2, false⟩, ⟨6, 0, false⟩, ⟨7, 0, false⟩, ⟨8, 10, false⟩, ⟨9, 0, false⟩, ⟨2, 6, false⟩]) .leaf) .leaf)) (.seq (.reg [⟨10, 2, false⟩, ⟨11, 0, false⟩, ⟨12, 10, false⟩, ⟨13, 0, false⟩, ⟨2, 6, false⟩]) .leaf)))
    (Eq.mpr (by kernel_rfl) h)

/-- (waveport/num.whole).minus -/
theorem whole_minus_vc (p0 : WhV) (V : View) (R : Value → View → Prop) 
  (h :
    CallV Tryz.prog 138 #[.bool (!p0.neg), p0.mag.v] V fun v V1 => ∃ r1 : WhV, v = r1.val ∧ -- num.wholeOf
    R (r1.val) V1) :
  CallV Tryz.prog 178 #[p0.val] V R :=
  calls_of_vc (Shp := Shp) hmixed Tryz.func178 (c := Tryz.f178.body.getD .skip) (args := [p0.val]) (by kernel_rfl)
    (.seq (.reg [⟨1, 3, false⟩, ⟨2, 3, false⟩]) (.seq (.reg [⟨3, 7, false⟩, ⟨1, 4, false⟩, ⟨5, 0, false⟩, ⟨6, 7, false⟩, ⟨1, 4, false⟩, ⟨8, 10, false⟩, ⟨2, 6, false⟩]) .leaf))
    (Eq.mpr (by kernel_rfl) h)

/-- (waveport/num.whole).plus -/
theorem whole_plus_vc (p0 : WhV) (p1 : WhV) (V : View) (R : Value → View → Prop) 
  (h :
    ((p0.neg == p1.neg) = true →
      CallV Tryz.prog 226 #[p0.mag.v, p1.mag.v] V fun v V1 => ∃ r1 : Sl, v = r1.v ∧ -- (num.nat).add
      CallV Tryz.prog 138 #[.bool p0.neg, r1.v] V1 fun v V2 => ∃ r2 : WhV, v = r2.val ∧ -- num.wholeOf
      R (r2.val) V2) ∧
    ((p0.neg == p1.neg) = false →
      CallV Tryz.prog 144 #[p0.mag.v, p1.mag.v] V fun v V3 => ∃ r3 : Int, v = .int .i64 r3 ∧ -- (num.nat).cmp
    ((decide ((r3 : Int) ≥ 0)) = true →
      CallV Tryz.prog 227 #[p0.mag.v, p1.mag.v] V3 fun v V4 => ∃ r4 : Sl, v = r4.v ∧ -- (num.nat).sub
      CallV Tryz.prog 138 #[.bool p0.neg, r4.v] V4 fun v V5 => ∃ r5 : WhV, v = r5.val ∧ -- num.wholeOf
      R (r5.val) V5) ∧
    ((decide ((r3 : Int) ≥ 0)) = false →
      CallV Tryz.prog 227 #[p1.mag.v, p0.mag.v] V3 fun v V6 => ∃ r6 : Sl, v = r6.v ∧ -- (num.nat).sub
    CallV Tryz.prog 138 #[.bool p1.neg, r6.v] V6 fun v V7 => ∃ r7 : WhV, v = r7.val ∧ -- num.wholeOf
    R (r7.val) V7))) :
  CallV Tryz.prog 162 #[p0.val, p1.val] V R :=
  calls_of_vc (Shp := Shp) hmixed Tryz.func162 (c := Tryz.f162.body.getD .skip) (args := [p0.val, p1.val]) (by kernel_rfl)
    (.seq (.reg [⟨2, 3, false⟩, ⟨3, 3, false⟩, ⟨4, 3, false⟩]) (.seq (.seq (.reg [⟨5, 7, false⟩, ⟨2, 4, false⟩, ⟨7, 7, false⟩, ⟨3, 4, false⟩, ⟨9, 0, false⟩]) (.cond (.seq (.draw [(0, ⟨10, 7, false⟩), (1, ⟨2, 4, false⟩), (2, ⟨12, 7, false⟩), (3, ⟨2, 4, false⟩), (4, ⟨14, 7, false⟩), (5, ⟨3, 4, false⟩), (6, ⟨16, 10, false⟩), (7, ⟨17, 10, false⟩), (8, ⟨4, 6, false⟩)] [0, 1, 0, 4, 0, 16, 60, 127, 255]) .leaf) .leaf)) (.seq (.seq (.reg [⟨18, 7, false⟩, ⟨2, 4, false⟩, ⟨20, 7, false⟩, ⟨3, 4, false⟩, ⟨22, 10, false⟩, ⟨23, 0, false⟩]) (.cond (.seq (.draw [(0, ⟨24, 7, false⟩), (1, ⟨2, 4, false⟩), (2, ⟨26, 7, false⟩), (3, ⟨2, 4, false⟩), (4, ⟨28, 7, false⟩), (5, ⟨3, 4, false⟩), (6, ⟨30, 10, false⟩), (7, ⟨31, 10, false⟩), (8, ⟨4, 6, false⟩)] [0, 1, 0, 4, 0, 16, 60, 127, 255]) .leaf) .leaf)) (.seq (.draw [(0, ⟨32, 7, false⟩), (1, ⟨3, 4, false⟩), (2, ⟨34, 7, false⟩), (3, ⟨3, 4, false⟩), (4, ⟨36, 7, false⟩), (5, ⟨2, 4, false⟩), (6, ⟨38, 10, false⟩), (7, ⟨39, 10, false⟩), (8, ⟨4, 6, false⟩)] [0, 1, 0, 4, 0, 16, 60, 127, 255]) .leaf))))
    (Eq.mpr (by kernel_rfl) h)

/-- (waveport/num.whole).times -/
theorem whole_times_vc (p0 : WhV) (p1 : WhV) (V : View) (R : Value → View → Prop) 
  (h :
    CallV Tryz.prog 163 #[p0.mag.v, p1.mag.v] V fun v V1 => ∃ r1 : Sl, v = r1.v ∧ -- (num.nat).mul
    CallV Tryz.prog 138 #[.bool (!(p0.neg == p1.neg)), r1.v] V1 fun v V2 => ∃ r2 : WhV, v = r2.val ∧ -- num.wholeOf
    R (r2.val) V2) :
  CallV Tryz.prog 177 #[p0.val, p1.val] V R :=
  calls_of_vc (Shp := Shp) hmixed Tryz.func177 (c := Tryz.f177.body.getD .skip) (args := [p0.val, p1.val]) (by kernel_rfl)
    (.seq (.reg [⟨2, 3, false⟩, ⟨3, 3, false⟩, ⟨4, 3, false⟩]) (.seq (.draw [(0, ⟨5, 7, false⟩), (1, ⟨2, 4, false⟩), (2, ⟨7, 7, false⟩), (3, ⟨3, 4, false⟩), (4, ⟨9, 0, false⟩), (5, ⟨10, 7, false⟩), (6, ⟨2, 4, false⟩), (7, ⟨12, 7, false⟩), (8, ⟨3, 4, false⟩), (9, ⟨14, 10, false⟩), (10, ⟨15, 10, false⟩), (11, ⟨4, 6, false⟩)] [0, 1, 0, 4, 15, 0, 32, 0, 128, 480, 1023, 2047]) .leaf))
    (Eq.mpr (by kernel_rfl) h)

/-- (waveport/num.whole).scaled -/
theorem whole_scaled_vc (p0 : WhV) (p1 : Sl) (V : View) (R : Value → View → Prop) 
  (h :
    CallV Tryz.prog 163 #[p0.mag.v, p1.v] V fun v V1 => ∃ r1 : Sl, v = r1.v ∧ -- (num.nat).mul
    CallV Tryz.prog 138 #[.bool p0.neg, r1.v] V1 fun v V2 => ∃ r2 : WhV, v = r2.val ∧ -- num.wholeOf
    R (r2.val) V2) :
  CallV Tryz.prog 161 #[p0.val, p1.v] V R :=
  calls_of_vc (Shp := Shp) hmixed Tryz.func161 (c := Tryz.f161.body.getD .skip) (args := [p0.val, p1.v]) (by kernel_rfl)
    (.seq (.reg [⟨2, 3, false⟩, ⟨4, 3, false⟩]) (.seq (.draw [(0, ⟨5, 7, false⟩), (1, ⟨2, 4, false⟩), (2, ⟨7, 7, false⟩), (3, ⟨2, 4, false⟩), (4, ⟨9, 2, false⟩), (5, ⟨10, 10, false⟩), (6, ⟨11, 10, false⟩), (7, ⟨4, 6, false⟩)] [0, 1, 0, 4, 0, 28, 63, 127]) .leaf))
    (Eq.mpr (by kernel_rfl) h)

/-- (waveport/num.whole).cmp -/
theorem whole_cmp_vc (p0 : WhV) (p1 : WhV) (V : View) (R : Value → View → Prop) 
  (h :
    CallV Tryz.prog 178 #[p1.val] V fun v V1 => ∃ r1 : WhV, v = r1.val ∧ -- (num.whole).minus
    CallV Tryz.prog 162 #[p0.val, r1.val] V1 fun v V2 => ∃ r2 : WhV, v = r2.val ∧ -- (num.whole).plus
    (r2.neg = true →
      R (.int .i64 (-1)) V2) ∧
    (r2.neg = false →
      R (.int .i64 (if (1 : Int) < (r2.mag.len : Int) then 1 else (r2.mag.len : Int))) V2)) :
  CallV Tryz.prog 143 #[p0.val, p1.val] V R :=
  calls_of_vc (Shp := Shp) hmixed Tryz.func143 (c := Tryz.f143.body.getD .skip) (args := [p0.val, p1.val]) (by kernel_rfl)
    (.seq (.reg [⟨2, 3, false⟩, ⟨3, 3, false⟩, ⟨4, 2, false⟩]) (.seq (.draw [(0, ⟨2, 4, false⟩), (1, ⟨3, 4, false⟩), (4, ⟨5, 3, false⟩), (2, ⟨8, 10, false⟩), (3, ⟨9, 10, false⟩), (5, ⟨5, 6, false⟩)] [0, 0, 2, 7, 0, 31]) (.seq (.seq (.reg [⟨10, 7, false⟩, ⟨5, 4, false⟩]) (.cond (.seq (.reg [⟨4, 2, false⟩]) .leaf) .leaf)) (.seq (.reg [⟨12, 7, false⟩, ⟨5, 4, false⟩, ⟨14, 0, false⟩, ⟨15, 0, false⟩, ⟨4, 2, false⟩]) .leaf))))
    (Eq.mpr (by kernel_rfl) h)

/-- waveport/num.over -/
theorem num_over_vc (p0 : WhV) (p1 : WhV) (p2 : Sl) (V : View) (R : Value → View → Prop) 
  (h :
    CallV Tryz.prog 208 #[p0.mag.v, p1.mag.v] V fun v V1 => ∃ r1 : Sl, v = r1.v ∧ -- (num.nat).gcd
    CallV Tryz.prog 208 #[r1.v, p2.v] V1 fun v V2 => ∃ r2 : Sl, v = r2.v ∧ -- (num.nat).gcd
    CallV Tryz.prog 209 #[r2.v] V2 fun v V3 => ∃ r3 : Bool, v = .bool r3 ∧ -- (num.nat).one
    ((!r3) = true →
      CallV Tryz.prog 210 #[p0.mag.v, r2.v] V3 fun v V4 => ∃ (r4 : Sl) (r5 : Sl), v = .tuple #[r4.v, r5.v] ∧ -- (num.nat).div
      CallV Tryz.prog 210 #[p1.mag.v, r2.v] V4 fun v V5 => ∃ (r6 : Sl) (r7 : Sl), v = .tuple #[r6.v, r7.v] ∧ -- (num.nat).div
      CallV Tryz.prog 210 #[p2.v, r2.v] V5 fun v V6 => ∃ (r8 : Sl) (r9 : Sl), v = .tuple #[r8.v, r9.v] ∧ -- (num.nat).div
      CallV Tryz.prog 209 #[r8.v] V6 fun v V7 => ∃ r10 : Bool, v = .bool r10 ∧ -- (num.nat).one
    (r10 = true →
      R ((NumV.mk (WhV.mk p0.neg r4) (WhV.mk p1.neg r6) (Sl.mk none 0 0)).val) V7) ∧
    (r10 = false →
      R ((NumV.mk (WhV.mk p0.neg r4) (WhV.mk p1.neg r6) r8).val) V7)) ∧
    ((!r3) = false →
      CallV Tryz.prog 209 #[p2.v] V3 fun v V8 => ∃ r11 : Bool, v = .bool r11 ∧ -- (num.nat).one
    (r11 = true →
      R ((NumV.mk p0 p1 (Sl.mk none 0 0)).val) V8) ∧
    (r11 = false →
      R ((NumV.mk p0 p1 p2).val) V8))) :
  CallV Tryz.prog 137 #[p0.val, p1.val, p2.v] V R :=
  calls_of_vc (Shp := Shp) hmixed Tryz.func137 (c := Tryz.f137.body.getD .skip) (args := [p0.val, p1.val, p2.v]) (by kernel_rfl)
    (.seq (.reg [⟨3, 3, false⟩, ⟨4, 3, false⟩, ⟨6, 3, false⟩]) (.seq (.reg [⟨8, 7, false⟩, ⟨3, 4, false⟩, ⟨10, 7, false⟩, ⟨4, 4, false⟩, ⟨12, 10, false⟩, ⟨13, 2, false⟩, ⟨14, 10, false⟩, ⟨7, 2, false⟩]) (.seq (.seq (.reg [⟨15, 2, false⟩, ⟨16, 10, false⟩, ⟨17, 0, false⟩]) (.cond (.seq (.reg [⟨19, 7, false⟩, ⟨3, 4, false⟩, ⟨21, 2, false⟩, ⟨22, 10, false⟩, ⟨18, 2, false⟩, ⟨23, 0, false⟩, ⟨24, 0, false⟩, ⟨25, 7, false⟩, ⟨3, 6, false⟩]) (.seq (.reg [⟨27, 7, false⟩, ⟨4, 4, false⟩, ⟨29, 2, false⟩, ⟨30, 10, false⟩, ⟨26, 2, false⟩, ⟨31, 0, false⟩, ⟨32, 0, false⟩, ⟨33, 7, false⟩, ⟨4, 6, false⟩]) (.reg [⟨35, 2, false⟩, ⟨36, 2, false⟩, ⟨37, 10, false⟩, ⟨34, 2, false⟩, ⟨38, 0, false⟩, ⟨39, 0, false⟩, ⟨2, 2, false⟩]))) .leaf)) (.seq (.seq (.reg [⟨40, 2, false⟩, ⟨41, 10, false⟩]) (.cond (.reg [⟨2, 2, false⟩]) .leaf)) (.seq (.reg [⟨3, 4, false⟩, ⟨4, 4, false⟩, ⟨44, 2, false⟩, ⟨45, 0, false⟩, ⟨6, 6, false⟩]) .leaf)))))
    (Eq.mpr (by kernel_rfl) h)

/-- (waveport/num.Num).den -/
theorem Num_den_vc (p0 : NumV) (V : View) (R : Value → View → Prop) 
  (h :
    ((((p0.under.len : Int) : Int) == 0) = true →
      ∀ (b1 : Nat) (V1 : View), View.le V V1 → View.Fin V1 → V1 b1 = some #[.int .u32 1] →
      R ((Sl.mk (some (Addr.mk b1 0 none)) 1 1).v) V1) ∧
    ((((p0.under.len : Int) : Int) == 0) = false →
      R (p0.under.v) V)) :
  CallV Tryz.prog 142 #[p0.val] V R :=
  calls_of_vc (Shp := Shp) hmixed Tryz.func142 (c := Tryz.f142.body.getD .skip) (args := [p0.val]) (by kernel_rfl)
    (.seq (.reg [⟨1, 3, false⟩, ⟨2, 2, false⟩]) (.seq (.seq (.reg [⟨3, 7, false⟩, ⟨1, 4, false⟩, ⟨5, 0, false⟩, ⟨6, 0, false⟩]) (.cond (.seq (.reg [⟨7, 11, false⟩, ⟨2, 2, false⟩]) .leaf) .leaf)) (.seq (.reg [⟨8, 7, false⟩, ⟨1, 4, false⟩, ⟨2, 2, false⟩]) .leaf)))
    (Eq.mpr (by kernel_rfl) h)

/-- waveport/num.New -/
theorem num_New_vc (p0 : Int) (p1 : Int) (p2 : Int) (V : View) (R : Value → View → Prop) 
  (h :
    (((p2 : Int) == 0) = true →
      R (.tuple #[(NumV.mk (WhV.mk false (Sl.mk none 0 0)) (WhV.mk false (Sl.mk none 0 0)) (Sl.mk none 0 0)).val, .int .i64 3]) V) ∧
    (((p2 : Int) == 0) = false →
      CallV Tryz.prog 181 #[.int .i64 p0] V fun v V1 => ∃ r1 : WhV, v = r1.val ∧ -- num.of64
    CallV Tryz.prog 181 #[.int .i64 p1] V1 fun v V2 => ∃ r2 : WhV, v = r2.val ∧ -- num.of64
    CallV Tryz.prog 181 #[.int .i64 p2] V2 fun v V3 => ∃ r3 : WhV, v = r3.val ∧ -- num.of64
    (r3.neg = true →
      CallV Tryz.prog 178 #[r1.val] V3 fun v V4 => ∃ r4 : WhV, v = r4.val ∧ -- (num.whole).minus
      CallV Tryz.prog 178 #[r2.val] V4 fun v V5 => ∃ r5 : WhV, v = r5.val ∧ -- (num.whole).minus
      CallV Tryz.prog 137 #[r4.val, r5.val, r3.mag.v] V5 fun v V6 => ∃ r6 : NumV, v = r6.val ∧ -- num.over
    R (.tuple #[r6.val, .int .i64 0]) V6) ∧
    (r3.neg = false →
      CallV Tryz.prog 137 #[r1.val, r2.val, r3.mag.v] V3 fun v V7 => ∃ r7 : NumV, v = r7.val ∧ -- num.over
    R (.tuple #[r7.val, .int .i64 0]) V7))) :
  CallV Tryz.prog 112 #[.int .i64 p0, .int .i64 p1, .int .i64 p2] V R :=
  calls_of_vc (Shp := Shp) hmixed Tryz.func112 (c := Tryz.f112.body.getD .skip) (args := [.int .i64 p0, .int .i64 p1, .int .i64 p2]) (by kernel_rfl)
    (.seq (.reg [⟨6, 3, false⟩, ⟨7, 2, false⟩]) (.seq (.seq (.reg [⟨11, 2, false⟩, ⟨12, 0, false⟩]) (.cond (.seq (.reg [⟨13, 0, false⟩, ⟨6, 6, false⟩, ⟨7, 2, false⟩]) .leaf) .leaf)) (.seq (.reg [⟨14, 2, false⟩, ⟨15, 10, false⟩, ⟨16, 2, false⟩, ⟨17, 10, false⟩, ⟨18, 2, false⟩, ⟨19, 10, false⟩, ⟨8, 3, false⟩, ⟨9, 3, false⟩, ⟨10, 3, false⟩, ⟨8, 6, false⟩, ⟨9, 6, false⟩, ⟨10, 6, false⟩]) (.seq (.seq (.reg [⟨20, 7, false⟩, ⟨10, 4, false⟩]) (.cond (.draw [(0, ⟨8, 4, false⟩), (2, ⟨9, 4, false⟩), (1, ⟨23, 10, false⟩), (3, ⟨25, 10, false⟩), (4, ⟨8, 6, false⟩), (5, ⟨9, 6, false⟩)] [0, 1, 0, 7, 15, 31]) .leaf)) (.seq (.reg [⟨8, 4, false⟩, ⟨9, 4, false⟩, ⟨28, 7, false⟩, ⟨10, 4, false⟩, ⟨30, 10, false⟩, ⟨6, 6, false⟩, ⟨7, 2, false⟩]) .leaf)))))
    (Eq.mpr (by kernel_rfl) h)

/-- (waveport/num.Num).Add -/
theorem Num_Add_vc (p0 : NumV) (p1 : NumV) (V : View) (R : Value → View → Prop) 
  (h :
    CallV Tryz.prog 142 #[p0.val] V fun v V1 => ∃ r1 : Sl, v = r1.v ∧ -- (num.Num).den
    CallV Tryz.prog 142 #[p1.val] V1 fun v V2 => ∃ r2 : Sl, v = r2.v ∧ -- (num.Num).den
    CallV Tryz.prog 161 #[p0.re.val, r2.v] V2 fun v V3 => ∃ r3 : WhV, v = r3.val ∧ -- (num.whole).scaled
    CallV Tryz.prog 161 #[p1.re.val, r1.v] V3 fun v V4 => ∃ r4 : WhV, v = r4.val ∧ -- (num.whole).scaled
    CallV Tryz.prog 162 #[r3.val, r4.val] V4 fun v V5 => ∃ r5 : WhV, v = r5.val ∧ -- (num.whole).plus
    CallV Tryz.prog 161 #[p0.im.val, r2.v] V5 fun v V6 => ∃ r6 : WhV, v = r6.val ∧ -- (num.whole).scaled
    CallV Tryz.prog 161 #[p1.im.val, r1.v] V6 fun v V7 => ∃ r7 : WhV, v = r7.val ∧ -- (num.whole).scaled
    CallV Tryz.prog 162 #[r6.val, r7.val] V7 fun v V8 => ∃ r8 : WhV, v = r8.val ∧ -- (num.whole).plus
    CallV Tryz.prog 163 #[r1.v, r2.v] V8 fun v V9 => ∃ r9 : Sl, v = r9.v ∧ -- (num.nat).mul
    CallV Tryz.prog 137 #[r5.val, r8.val, r9.v] V9 fun v V10 => ∃ r10 : NumV, v = r10.val ∧ -- num.over
    R (r10.val) V10) :
  CallV Tryz.prog 81 #[p0.val, p1.val] V R :=
  calls_of_vc (Shp := Shp) hmixed Tryz.func81 (c := Tryz.f81.body.getD .skip) (args := [p0.val, p1.val]) (by kernel_rfl)
    (.seq (.reg [⟨2, 3, false⟩, ⟨3, 3, false⟩, ⟨4, 3, false⟩]) (.seq (.draw [(0, ⟨2, 4, false⟩), (2, ⟨3, 4, false⟩), (1, ⟨8, 10, false⟩), (3, ⟨10, 10, false⟩), (4, ⟨5, 2, false⟩), (5, ⟨6, 2, false⟩)] [0, 1, 0, 7, 15, 31]) (.seq (.draw [(0, ⟨11, 7, false⟩), (1, ⟨2, 4, false⟩), (2, ⟨13, 2, false⟩), (4, ⟨15, 7, false⟩), (5, ⟨3, 4, false⟩), (6, ⟨17, 2, false⟩), (9, ⟨20, 7, false⟩), (10, ⟨2, 4, false⟩), (11, ⟨22, 2, false⟩), (13, ⟨24, 7, false⟩), (14, ⟨3, 4, false⟩), (15, ⟨26, 2, false⟩), (18, ⟨29, 2, false⟩), (19, ⟨30, 2, false⟩), (3, ⟨14, 10, false⟩), (7, ⟨18, 10, false⟩), (8, ⟨19, 10, false⟩), (12, ⟨23, 10, false⟩), (16, ⟨27, 10, false⟩), (17, ⟨28, 10, false⟩), (20, ⟨31, 10, false⟩), (21, ⟨32, 10, false⟩), (22, ⟨4, 6, false⟩)] [0, 1, 0, 7, 0, 16, 0, 127, 255, 0, 512, 0, 4095, 0, 8192, 0, 65535, 131071, 0, 0, 1048575, 2097151, 4194303]) .leaf)))
    (Eq.mpr (by kernel_rfl) h)

/-- (waveport/num.Num).Neg -/
theorem Num_Neg_vc (p0 : NumV) (V : View) (R : Value → View → Prop) 
  (h :
    CallV Tryz.prog 178 #[p0.re.val] V fun v V1 => ∃ r1 : WhV, v = r1.val ∧ -- (num.whole).minus
    CallV Tryz.prog 178 #[p0.im.val] V1 fun v V2 => ∃ r2 : WhV, v = r2.val ∧ -- (num.whole).minus
    R ((NumV.mk r1 r2 p0.under).val) V2) :
  CallV Tryz.prog 92 #[p0.val] V R :=
  calls_of_vc (Shp := Shp) hmixed Tryz.func92 (c := Tryz.f92.body.getD .skip) (args := [p0.val]) (by kernel_rfl)
    (.seq (.reg [⟨1, 3, false⟩, ⟨2, 3, false⟩]) (.seq (.draw [(0, ⟨3, 7, false⟩), (1, ⟨1, 4, false⟩), (3, ⟨6, 7, false⟩), (4, ⟨1, 4, false⟩), (6, ⟨9, 7, false⟩), (7, ⟨1, 4, false⟩), (2, ⟨5, 10, false⟩), (5, ⟨8, 10, false⟩), (8, ⟨11, 0, false⟩), (9, ⟨2, 6, false⟩)] [0, 1, 3, 0, 8, 31, 0, 64, 255, 511]) .leaf))
    (Eq.mpr (by kernel_rfl) h)

/-- (waveport/num.Num).Mul -/
theorem Num_Mul_vc (p0 : NumV) (p1 : NumV) (V : View) (R : Value → View → Prop) 
  (h :
    CallV Tryz.prog 177 #[p0.re.val, p1.re.val] V fun v V1 => ∃ r1 : WhV, v = r1.val ∧ -- (num.whole).times
    CallV Tryz.prog 177 #[p0.im.val, p1.im.val] V1 fun v V2 => ∃ r2 : WhV, v = r2.val ∧ -- (num.whole).times
    CallV Tryz.prog 178 #[r2.val] V2 fun v V3 => ∃ r3 : WhV, v = r3.val ∧ -- (num.whole).minus
    CallV Tryz.prog 162 #[r1.val, r3.val] V3 fun v V4 => ∃ r4 : WhV, v = r4.val ∧ -- (num.whole).plus
    CallV Tryz.prog 177 #[p0.re.val, p1.im.val] V4 fun v V5 => ∃ r5 : WhV, v = r5.val ∧ -- (num.whole).times
    CallV Tryz.prog 177 #[p0.im.val, p1.re.val] V5 fun v V6 => ∃ r6 : WhV, v = r6.val ∧ -- (num.whole).times
    CallV Tryz.prog 162 #[r5.val, r6.val] V6 fun v V7 => ∃ r7 : WhV, v = r7.val ∧ -- (num.whole).plus
    CallV Tryz.prog 142 #[p0.val] V7 fun v V8 => ∃ r8 : Sl, v = r8.v ∧ -- (num.Num).den
    CallV Tryz.prog 142 #[p1.val] V8 fun v V9 => ∃ r9 : Sl, v = r9.v ∧ -- (num.Num).den
    CallV Tryz.prog 163 #[r8.v, r9.v] V9 fun v V10 => ∃ r10 : Sl, v = r10.v ∧ -- (num.nat).mul
    CallV Tryz.prog 137 #[r4.val, r7.val, r10.v] V10 fun v V11 => ∃ r11 : NumV, v = r11.val ∧ -- num.over
    R (r11.val) V11) :
  CallV Tryz.prog 91 #[p0.val, p1.val] V R :=
  calls_of_vc (Shp := Shp) hmixed Tryz.func91 (c := Tryz.f91.body.getD .skip) (args := [p0.val, p1.val]) (by kernel_rfl)
    (.seq (.reg [⟨2, 3, false⟩, ⟨3, 3, false⟩, ⟨4, 3, false⟩]) (.seq (.draw [(0, ⟨7, 7, false⟩), (1, ⟨2, 4, false⟩), (2, ⟨9, 7, false⟩), (3, ⟨3, 4, false⟩), (5, ⟨12, 7, false⟩), (6, ⟨2, 4, false⟩), (7, ⟨14, 7, false⟩), (8, ⟨3, 4, false⟩), (12, ⟨5, 3, false⟩), (4, ⟨11, 10, false⟩), (9, ⟨16, 10, false⟩), (10, ⟨17, 10, false⟩), (11, ⟨18, 10, false⟩), (13, ⟨5, 6, false⟩)] [0, 1, 0, 4, 15, 0, 32, 0, 128, 511, 1023, 2047, 0, 8191]) (.seq (.draw [(0, ⟨19, 7, false⟩), (1, ⟨2, 4, false⟩), (2, ⟨21, 7, false⟩), (3, ⟨3, 4, false⟩), (5, ⟨24, 7, false⟩), (6, ⟨2, 4, false⟩), (7, ⟨26, 7, false⟩), (8, ⟨3, 4, false⟩), (11, ⟨6, 3, false⟩), (4, ⟨23, 10, false⟩), (9, ⟨28, 10, false⟩), (10, ⟨29, 10, false⟩), (12, ⟨6, 6, false⟩)] [0, 1, 0, 4, 15, 0, 32, 0, 128, 511, 1023, 0, 4095]) (.seq (.draw [(0, ⟨5, 4, false⟩), (1, ⟨6, 4, false⟩), (2, ⟨2, 4, false⟩), (4, ⟨3, 4, false⟩), (3, ⟨33, 10, false⟩), (5, ⟨35, 10, false⟩), (6, ⟨36, 10, false⟩), (7, ⟨37, 10, false⟩), (8, ⟨4, 6, false⟩)] [0, 0, 0, 4, 0, 28, 60, 127, 255]) .leaf))))
    (Eq.mpr (by kernel_rfl) h)

/-- (waveport/num.Num).Same -/
theorem Num_Same_vc (p0 : NumV) (p1 : NumV) (V : View) (R : Value → View → Prop) 
  (h :
    CallV Tryz.prog 143 #[p0.re.val, p1.re.val] V fun v V1 => ∃ r1 : Int, v = .int .i64 r1 ∧ -- (num.whole).cmp
    (((r1 : Int) == 0) = true →
    CallV Tryz.prog 143 #[p0.im.val, p1.im.val] V1 fun v V2 => ∃ r2 : Int, v = .int .i64 r2 ∧ -- (num.whole).cmp
    (((r2 : Int) == 0) = true →
    CallV Tryz.prog 144 #[p0.under.v, p1.under.v] V2 fun v V3 => ∃ r3 : Int, v = .int .i64 r3 ∧ -- (num.nat).cmp
    R (.bool ((r3 : Int) == 0)) V3) ∧
    (((r2 : Int) == 0) = false →
    R (.bool false) V2)) ∧
    (((r1 : Int) == 0) = false →
    (false = true →
    CallV Tryz.prog 144 #[p0.under.v, p1.under.v] V1 fun v V4 => ∃ r4 : Int, v = .int .i64 r4 ∧ -- (num.nat).cmp
    R (.bool ((r4 : Int) == 0)) V4) ∧
    (false = false →
    R (.bool false) V1))) :
  CallV Tryz.prog 60 #[p0.val, p1.val] V R :=
  calls_of_vc (Shp := Shp) hmixed Tryz.func60 (c := Tryz.f60.body.getD .skip) (args := [p0.val, p1.val]) (by kernel_rfl)
    (.seq (.reg [⟨2, 3, false⟩, ⟨3, 3, false⟩, ⟨4, 2, false⟩]) (.seq (.reg [⟨5, 7, false⟩, ⟨2, 4, false⟩, ⟨7, 7, false⟩, ⟨3, 4, false⟩, ⟨9, 10, false⟩, ⟨10, 0, false⟩, ⟨11, 2, true⟩, ⟨12, 7, false⟩, ⟨2, 4, false⟩, ⟨14, 7, false⟩, ⟨3, 4, false⟩, ⟨16, 10, false⟩, ⟨17, 0, false⟩, ⟨18, 2, false⟩, ⟨19, 2, true⟩, ⟨20, 7, false⟩, ⟨2, 4, false⟩, ⟨22, 7, false⟩, ⟨3, 4, false⟩, ⟨24, 10, false⟩, ⟨25, 0, false⟩, ⟨26, 2, false⟩, ⟨4, 2, false⟩]) .leaf))
    (Eq.mpr (by kernel_rfl) h)

/-- (waveport/num.Num).Real -/
theorem Num_Real_vc (p0 : NumV) (V : View) (R : Value → View → Prop) 
  (h :
    R (.bool (((p0.im.mag.len : Int) : Int) == 0)) V) :
  CallV Tryz.prog 109 #[p0.val] V R :=
  calls_of_vc (Shp := Shp) hmixed Tryz.func109 (c := Tryz.f109.body.getD .skip) (args := [p0.val]) (by kernel_rfl)
    (.seq (.reg [⟨1, 3, false⟩, ⟨2, 2, false⟩]) (.seq (.reg [⟨3, 7, false⟩, ⟨4, 7, false⟩, ⟨1, 4, false⟩, ⟨6, 0, false⟩, ⟨7, 0, false⟩, ⟨2, 2, false⟩]) .leaf))
    (Eq.mpr (by kernel_rfl) h)

/-- (waveport/num.Num).Cmp -/
theorem Num_Cmp_vc (p0 : NumV) (p1 : NumV) (V : View) (R : Value → View → Prop) 
  (h :
    CallV Tryz.prog 142 #[p1.val] V fun v V1 => ∃ r1 : Sl, v = r1.v ∧ -- (num.Num).den
    CallV Tryz.prog 161 #[p0.re.val, r1.v] V1 fun v V2 => ∃ r2 : WhV, v = r2.val ∧ -- (num.whole).scaled
    CallV Tryz.prog 142 #[p0.val] V2 fun v V3 => ∃ r3 : Sl, v = r3.v ∧ -- (num.Num).den
    CallV Tryz.prog 161 #[p1.re.val, r3.v] V3 fun v V4 => ∃ r4 : WhV, v = r4.val ∧ -- (num.whole).scaled
    CallV Tryz.prog 143 #[r2.val, r4.val] V4 fun v V5 => ∃ r5 : Int, v = .int .i64 r5 ∧ -- (num.whole).cmp
    (((r5 : Int) != 0) = true →
      R (.int .i64 r5) V5) ∧
    (((r5 : Int) != 0) = false →
      CallV Tryz.prog 142 #[p1.val] V5 fun v V6 => ∃ r6 : Sl, v = r6.v ∧ -- (num.Num).den
    CallV Tryz.prog 161 #[p0.im.val, r6.v] V6 fun v V7 => ∃ r7 : WhV, v = r7.val ∧ -- (num.whole).scaled
    CallV Tryz.prog 142 #[p0.val] V7 fun v V8 => ∃ r8 : Sl, v = r8.v ∧ -- (num.Num).den
    CallV Tryz.prog 161 #[p1.im.val, r8.v] V8 fun v V9 => ∃ r9 : WhV, v = r9.val ∧ -- (num.whole).scaled
    CallV Tryz.prog 143 #[r7.val, r9.val] V9 fun v V10 => ∃ r10 : Int, v = .int .i64 r10 ∧ -- (num.whole).cmp
    R (.int .i64 r10) V10)) :
  CallV Tryz.prog 198 #[p0.val, p1.val] V R :=
  calls_of_vc (Shp := Shp) hmixed Tryz.func198 (c := Tryz.f198.body.getD .skip) (args := [p0.val, p1.val]) (by kernel_rfl)
    (.seq (.reg [⟨2, 3, false⟩, ⟨3, 3, false⟩, ⟨4, 2, false⟩]) (.seq (.seq (.draw [(0, ⟨6, 7, false⟩), (1, ⟨2, 4, false⟩), (2, ⟨3, 4, false⟩), (5, ⟨11, 7, false⟩), (6, ⟨3, 4, false⟩), (7, ⟨2, 4, false⟩), (3, ⟨9, 10, false⟩), (4, ⟨10, 10, false⟩), (8, ⟨14, 10, false⟩), (9, ⟨15, 10, false⟩), (10, ⟨16, 10, false⟩), (11, ⟨5, 2, false⟩)] [0, 1, 0, 4, 15, 0, 32, 0, 159, 511, 1023, 2047]) (.seq (.reg [⟨17, 2, false⟩, ⟨18, 0, false⟩]) (.cond (.seq (.reg [⟨19, 2, false⟩, ⟨4, 2, false⟩]) .leaf) .leaf))) (.seq (.draw [(0, ⟨20, 7, false⟩), (1, ⟨2, 4, false⟩), (2, ⟨3, 4, false⟩), (5, ⟨25, 7, false⟩), (6, ⟨3, 4, false⟩), (7, ⟨2, 4, false⟩), (3, ⟨23, 10, false⟩), (4, ⟨24, 10, false⟩), (8, ⟨28, 10, false⟩), (9, ⟨29, 10, false⟩), (10, ⟨30, 10, false⟩), (11, ⟨4, 2, false⟩)] [0, 1, 0, 4, 15, 0, 32, 0, 159, 511, 1023, 2047]) .leaf)))
    (Eq.mpr (by kernel_rfl) h)

end Go.Proofs.YtkibfmnkkiakoaaGreat
