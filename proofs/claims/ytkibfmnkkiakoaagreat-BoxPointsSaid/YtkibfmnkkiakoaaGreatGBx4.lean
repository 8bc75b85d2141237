/- Part of the proof; it has the parts GBx4. -/
import Derived.Test.YtkibfmnkkiakoaaGreatFTr1
set_option maxRecDepth 100000
set_option maxHeartbeats 4000000
namespace Go.Proofs.YtkibfmnkkiakoaaGreat
open Go Go.Vc Go.Proofs

/-- waveport/box.Around -/
theorem box_Around_vc (p0 : NumV) (p1 : NumV) (V : View) (R : Value → View → Prop) 
  (h :
    CallV Tryz.prog 109 #[p0.val] V fun v V1 => ∃ r1 : Bool, v = .bool r1 ∧ -- (num.Num).Real
    ((!r1) = true →
    R (.tuple #[(SpV.mk 0 0).val, .int .i64 1]) V1) ∧
    ((!r1) = false →
    CallV Tryz.prog 109 #[p1.val] V1 fun v V2 => ∃ r2 : Bool, v = .bool r2 ∧ -- (num.Num).Real
    ((!r2) = true →
      R (.tuple #[(SpV.mk 0 0).val, .int .i64 1]) V2) ∧
    ((!r2) = false →
      ∀ (b1 : Nat) (V3 : View), View.le V2 V3 → View.Fin V3 → V3 b1 = some #[.int .i64 0, .bool p0.re.neg, p0.re.mag.v, .bool p0.im.neg, p0.im.mag.v, p0.under.v, .int .i64 0, .bool p1.re.neg, p1.re.mag.v, .bool p1.im.neg, p1.im.mag.v, p1.under.v] →
    CallV Tryz.prog 110 #[(Sl.mk (some (Addr.mk b1 0 none)) 2 2).v] V3 fun v V4 => ∃ r3 : BdV, v = r3.val ∧ -- box.least
    ∀ (b2 : Nat) (V5 : View), View.le V4 V5 → View.Fin V5 → V5 b2 = some #[.int .i64 0, .bool p0.re.neg, p0.re.mag.v, .bool p0.im.neg, p0.im.mag.v, p0.under.v, .int .i64 0, .bool p1.re.neg, p1.re.mag.v, .bool p1.im.neg, p1.im.mag.v, p1.under.v] →
    CallV Tryz.prog 111 #[(Sl.mk (some (Addr.mk b2 0 none)) 2 2).v] V5 fun v V6 => ∃ r4 : BdV, v = r4.val ∧ -- box.greatest
    CallV Tryz.prog 101 #[(SetV.mk r3 r4).val] V6 fun v V7 => ∃ r5 : SpV, v = r5.val ∧ -- (box.set).span
    R (.tuple #[r5.val, .int .i64 0]) V7))) :
  CallV Tryz.prog 34 #[p0.val, p1.val] V R :=
  calls_of_vc (Shp := Shp) hmixed Tryz.func34 (c := Tryz.f34.body.getD .skip) (args := [p0.val, p1.val]) (by kernel_rfl)
    (.seq (.reg [⟨2, 3, false⟩, ⟨3, 3, false⟩, ⟨4, 3, false⟩, ⟨5, 2, false⟩]) (.seq (.seq (.reg [⟨2, 4, false⟩, ⟨9, 10, false⟩, ⟨10, 20, false⟩, ⟨11, 2, true⟩, ⟨3, 4, false⟩, ⟨13, 10, false⟩, ⟨14, 20, false⟩, ⟨15, 20, false⟩]) (.cond (.seq (.reg [⟨16, 0, false⟩, ⟨4, 6, false⟩, ⟨5, 2, false⟩]) .leaf) .leaf)) (.seq (.draw [(0, ⟨2, 4, false⟩), (1, ⟨18, 0, false⟩), (2, ⟨3, 4, false⟩), (3, ⟨20, 0, false⟩), (4, ⟨6, 3, false⟩), (5, ⟨7, 3, false⟩), (6, ⟨6, 6, false⟩), (7, ⟨7, 6, false⟩)] [0, 1, 0, 4, 0, 0, 51, 127]) (.seq (.draw [(0, ⟨6, 4, false⟩), (1, ⟨7, 4, false⟩), (4, ⟨6, 4, false⟩), (5, ⟨7, 4, false⟩), (2, ⟨23, 11, false⟩), (3, ⟨24, 10, false⟩), (6, ⟨27, 11, false⟩), (7, ⟨28, 10, false⟩), (8, ⟨29, 0, false⟩), (9, ⟨30, 10, false⟩), (10, ⟨4, 6, false⟩), (11, ⟨5, 2, false⟩)] [0, 0, 3, 7, 0, 0, 48, 127, 255, 511, 1023, 2047]) .leaf))))
    (Eq.mpr (by kernel_rfl) h)

/-- (waveport/box.Box).Of -/
theorem Box_Of_vc (p0 : BoxV) (p1 : NumV) (V : View) (R : Value → View → Prop) 
  (h :
    CallV Tryz.prog 128 #[p1.val] V fun v V1 => ∃ r1 : NumV, v = r1.val ∧ -- (num.Num).Re
    CallV Tryz.prog 128 #[p1.val] V1 fun v V2 => ∃ r2 : NumV, v = r2.val ∧ -- (num.Num).Re
    CallV Tryz.prog 34 #[r1.val, r2.val] V2 fun v V3 => ∃ (r3 : SpV) (r4 : Int), v = .tuple #[r3.val, .int .i64 r4] ∧ -- box.Around
    CallV Tryz.prog 129 #[p1.val] V3 fun v V4 => ∃ r5 : NumV, v = r5.val ∧ -- (num.Num).Im
    CallV Tryz.prog 129 #[p1.val] V4 fun v V5 => ∃ r6 : NumV, v = r6.val ∧ -- (num.Num).Im
    CallV Tryz.prog 34 #[r5.val, r6.val] V5 fun v V6 => ∃ (r7 : SpV) (r8 : Int), v = .tuple #[r7.val, .int .i64 r8] ∧ -- box.Around
    R ((BoxV.mk r3 r7).val) V6) :
  CallV Tryz.prog 47 #[p0.val, p1.val] V R :=
  calls_of_vc (Shp := Shp) hmixed Tryz.func47 (c := Tryz.f47.body.getD .skip) (args := [p0.val, p1.val]) (by kernel_rfl)
    (.seq (.reg [⟨2, 3, false⟩, ⟨3, 3, false⟩, ⟨4, 3, false⟩]) (.seq (.draw [(0, ⟨3, 4, false⟩), (2, ⟨3, 4, false⟩), (8, ⟨5, 3, false⟩), (1, ⟨11, 10, false⟩), (3, ⟨13, 10, false⟩), (4, ⟨14, 10, false⟩), (5, ⟨9, 2, false⟩), (6, ⟨15, 0, false⟩), (7, ⟨16, 0, false⟩), (9, ⟨5, 6, false⟩), (10, ⟨6, 2, false⟩)] [0, 1, 0, 7, 15, 31, 63, 63, 0, 383, 1023]) (.seq (.draw [(0, ⟨3, 4, false⟩), (2, ⟨3, 4, false⟩), (8, ⟨7, 3, false⟩), (1, ⟨19, 10, false⟩), (3, ⟨21, 10, false⟩), (4, ⟨22, 10, false⟩), (5, ⟨17, 2, false⟩), (6, ⟨23, 0, false⟩), (7, ⟨24, 0, false⟩), (9, ⟨7, 6, false⟩), (10, ⟨8, 2, false⟩)] [0, 1, 0, 7, 15, 31, 63, 63, 0, 383, 1023]) (.seq (.reg [⟨5, 4, false⟩, ⟨7, 4, false⟩, ⟨27, 0, false⟩, ⟨4, 6, false⟩]) .leaf))))
    (Eq.mpr (by kernel_rfl) h)

end Go.Proofs.YtkibfmnkkiakoaaGreat
