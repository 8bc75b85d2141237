/- Part of the proof; it has the parts FTr1. -/
import Derived.Test.YtkibfmnkkiakoaaGreatFNum1
set_option maxRecDepth 100000
set_option maxHeartbeats 4000000
namespace Go.Proofs.YtkibfmnkkiakoaaGreat
open Go Go.Vc Go.Proofs

/-- waveport/waveportlaw01.Of -/
theorem law1_Of_vc (p0 : RatV) (V : View) (R : Value → View → Prop) 
  (h :
    (((p0.den : Int) == 0) = true →
      CallV Tryz.prog 112 #[.int .i64 p0.re, .int .i64 p0.im, .int .i64 1] V fun v V1 => ∃ (r1 : NumV) (r2 : Int), v = .tuple #[r1.val, .int .i64 r2] ∧ -- num.New
    R (r1.val) V1) ∧
    (((p0.den : Int) == 0) = false →
      CallV Tryz.prog 112 #[.int .i64 p0.re, .int .i64 p0.im, .int .i64 p0.den] V fun v V2 => ∃ (r3 : NumV) (r4 : Int), v = .tuple #[r3.val, .int .i64 r4] ∧ -- num.New
    R (r3.val) V2)) :
  CallV Tryz.prog 35 #[p0.val] V R :=
  calls_of_vc (Shp := Shp) hmixed Tryz.func35 (c := Tryz.f35.body.getD .skip) (args := [p0.val]) (by kernel_rfl)
    (.seq (.reg [⟨1, 3, false⟩, ⟨2, 3, false⟩]) (.seq (.seq (.reg [⟨5, 7, false⟩, ⟨1, 4, false⟩, ⟨7, 0, false⟩]) (.cond (.reg [⟨8, 7, false⟩, ⟨1, 6, false⟩]) .leaf)) (.seq (.reg [⟨10, 7, false⟩, ⟨1, 4, false⟩, ⟨12, 7, false⟩, ⟨1, 4, false⟩, ⟨14, 7, false⟩, ⟨1, 4, false⟩, ⟨16, 10, false⟩, ⟨9, 2, false⟩, ⟨17, 0, false⟩, ⟨18, 0, false⟩, ⟨3, 3, false⟩, ⟨3, 6, false⟩, ⟨4, 2, false⟩]) (.seq (.reg [⟨3, 4, false⟩, ⟨2, 6, false⟩]) .leaf))))
    (Eq.mpr (by kernel_rfl) h)

end Go.Proofs.YtkibfmnkkiakoaaGreat
