/- Part of the proof; it has the parts GBx4. -/
import Derived.Test.YtcapadojlaojkaaGreatFNum1
set_option maxRecDepth 100000
set_option maxHeartbeats 4000000
namespace Go.Proofs.YtcapadojlaojkaaGreat
open Go Go.Vc Go.Proofs

/-- (waveport/box.Span).Add -/
theorem Span_Add_vc (p0 : SpV) (p1 : SpV) (V : View) (R : Value → View → Prop) 
  (h :
    CallV Tryz.prog 76 #[p0.val] V fun v V1 => ∃ r1 : SetV, v = r1.val ∧ -- (box.Span).set
    CallV Tryz.prog 76 #[p1.val] V1 fun v V2 => ∃ r2 : SetV, v = r2.val ∧ -- (box.Span).set
    CallV Tryz.prog 83 #[r1.val, r2.val] V2 fun v V3 => ∃ r3 : SetV, v = r3.val ∧ -- (box.set).add
    CallV Tryz.prog 78 #[r3.val] V3 fun v V4 => ∃ r4 : SpV, v = r4.val ∧ -- (box.set).span
    R (r4.val) V4) :
  CallV Tryz.prog 81 #[p0.val, p1.val] V R :=
  calls_of_vc (Shp := Shp) hmixed Tryz.func81 (c := Tryz.f81.body.getD .skip) (args := [p0.val, p1.val]) (by kernel_rfl)
    (.seq (.reg [⟨2, 3, false⟩, ⟨3, 3, false⟩, ⟨4, 3, false⟩]) (.seq (.draw [(0, ⟨2, 4, false⟩), (2, ⟨3, 4, false⟩), (1, ⟨6, 10, false⟩), (3, ⟨8, 10, false⟩), (4, ⟨9, 10, false⟩), (5, ⟨10, 10, false⟩), (6, ⟨4, 6, false⟩)] [0, 1, 0, 7, 15, 31, 63]) .leaf))
    (Eq.mpr (by kernel_rfl) h)

/-- (waveport/box.Span).Sub -/
theorem Span_Sub_vc (p0 : SpV) (p1 : SpV) (V : View) (R : Value → View → Prop) 
  (h :
    CallV Tryz.prog 76 #[p0.val] V fun v V1 => ∃ r1 : SetV, v = r1.val ∧ -- (box.Span).set
    CallV Tryz.prog 76 #[p1.val] V1 fun v V2 => ∃ r2 : SetV, v = r2.val ∧ -- (box.Span).set
    CallV Tryz.prog 79 #[r2.val] V2 fun v V3 => ∃ r3 : SetV, v = r3.val ∧ -- (box.set).neg
    CallV Tryz.prog 83 #[r1.val, r3.val] V3 fun v V4 => ∃ r4 : SetV, v = r4.val ∧ -- (box.set).add
    CallV Tryz.prog 78 #[r4.val] V4 fun v V5 => ∃ r5 : SpV, v = r5.val ∧ -- (box.set).span
    R (r5.val) V5) :
  CallV Tryz.prog 84 #[p0.val, p1.val] V R :=
  calls_of_vc (Shp := Shp) hmixed Tryz.func84 (c := Tryz.f84.body.getD .skip) (args := [p0.val, p1.val]) (by kernel_rfl)
    (.seq (.reg [⟨2, 3, false⟩, ⟨3, 3, false⟩, ⟨4, 3, false⟩]) (.seq (.draw [(0, ⟨2, 4, false⟩), (2, ⟨3, 4, false⟩), (1, ⟨6, 10, false⟩), (3, ⟨8, 10, false⟩), (4, ⟨9, 10, false⟩), (5, ⟨10, 10, false⟩), (6, ⟨11, 10, false⟩), (7, ⟨4, 6, false⟩)] [0, 1, 0, 7, 15, 31, 63, 127]) .leaf))
    (Eq.mpr (by kernel_rfl) h)

/-- (waveport/box.Box).Add -/
theorem Box_Add_vc (p0 : BoxV) (p1 : BoxV) (V : View) (R : Value → View → Prop) 
  (h :
    CallV Tryz.prog 81 #[p0.re.val, p1.re.val] V fun v V1 => ∃ r1 : SpV, v = r1.val ∧ -- (box.Span).Add
    CallV Tryz.prog 81 #[p0.im.val, p1.im.val] V1 fun v V2 => ∃ r2 : SpV, v = r2.val ∧ -- (box.Span).Add
    R ((BoxV.mk r1 r2).val) V2) :
  CallV Tryz.prog 22 #[p0.val, p1.val] V R :=
  calls_of_vc (Shp := Shp) hmixed Tryz.func22 (c := Tryz.f22.body.getD .skip) (args := [p0.val, p1.val]) (by kernel_rfl)
    (.seq (.reg [⟨2, 3, false⟩, ⟨3, 3, false⟩, ⟨4, 3, false⟩]) (.seq (.draw [(0, ⟨5, 7, false⟩), (1, ⟨2, 4, false⟩), (2, ⟨7, 7, false⟩), (3, ⟨3, 4, false⟩), (5, ⟨10, 7, false⟩), (6, ⟨2, 4, false⟩), (7, ⟨12, 7, false⟩), (8, ⟨3, 4, false⟩), (4, ⟨9, 10, false⟩), (9, ⟨14, 10, false⟩), (10, ⟨15, 0, false⟩), (11, ⟨4, 6, false⟩)] [0, 1, 0, 4, 15, 0, 32, 0, 128, 511, 1023, 2047]) .leaf))
    (Eq.mpr (by kernel_rfl) h)

/-- (waveport/box.Box).Sub -/
theorem Box_Sub_vc (p0 : BoxV) (p1 : BoxV) (V : View) (R : Value → View → Prop) 
  (h :
    CallV Tryz.prog 84 #[p0.re.val, p1.re.val] V fun v V1 => ∃ r1 : SpV, v = r1.val ∧ -- (box.Span).Sub
    CallV Tryz.prog 84 #[p0.im.val, p1.im.val] V1 fun v V2 => ∃ r2 : SpV, v = r2.val ∧ -- (box.Span).Sub
    R ((BoxV.mk r1 r2).val) V2) :
  CallV Tryz.prog 25 #[p0.val, p1.val] V R :=
  calls_of_vc (Shp := Shp) hmixed Tryz.func25 (c := Tryz.f25.body.getD .skip) (args := [p0.val, p1.val]) (by kernel_rfl)
    (.seq (.reg [⟨2, 3, false⟩, ⟨3, 3, false⟩, ⟨4, 3, false⟩]) (.seq (.draw [(0, ⟨5, 7, false⟩), (1, ⟨2, 4, false⟩), (2, ⟨7, 7, false⟩), (3, ⟨3, 4, false⟩), (5, ⟨10, 7, false⟩), (6, ⟨2, 4, false⟩), (7, ⟨12, 7, false⟩), (8, ⟨3, 4, false⟩), (4, ⟨9, 10, false⟩), (9, ⟨14, 10, false⟩), (10, ⟨15, 0, false⟩), (11, ⟨4, 6, false⟩)] [0, 1, 0, 4, 15, 0, 32, 0, 128, 511, 1023, 2047]) .leaf))
    (Eq.mpr (by kernel_rfl) h)

end Go.Proofs.YtcapadojlaojkaaGreat
