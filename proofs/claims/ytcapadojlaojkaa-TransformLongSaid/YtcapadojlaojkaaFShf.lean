/- Part of the proof; it has the parts FShf. -/
import Derived.Test.YtcapadojlaojkaaFLng
set_option maxRecDepth 100000
set_option maxHeartbeats 4000000
namespace Go.Proofs.Ytcapadojlaojkaa
open Go Go.Vc Go.Proofs

/-- waveport/waveportref07.pair -/
theorem waveportref07_pair_vc (p0 : Sl) (p1 : Sl) (V : View) (R : Value → View → Prop) 
  (h :
    ((((p0.len : Int) : Int) == (p1.len : Int)) = true →
    R (.bool (decide (((p0.len : Int) : Int) ≤ 64))) V) ∧
    ((((p0.len : Int) : Int) == (p1.len : Int)) = false →
    R (.bool false) V)) :
  CallV Try.prog 76 #[p0.v, p1.v] V R :=
  calls_of_vc (Shp := Shp) hmixed Try.func76 (c := Try.f76.body.getD .skip) (args := [p0.v, p1.v]) (by kernel_rfl)
    (.seq (.reg [⟨4, 2, false⟩]) (.seq (.reg [⟨5, 2, false⟩, ⟨6, 0, false⟩, ⟨7, 2, false⟩, ⟨8, 0, false⟩, ⟨9, 0, false⟩, ⟨10, 2, true⟩, ⟨11, 2, false⟩, ⟨12, 0, false⟩, ⟨13, 0, false⟩, ⟨14, 2, false⟩, ⟨4, 2, false⟩]) .leaf))
    (Eq.mpr (by kernel_rfl) h)

/-- waveport/waveportref07.Moved -/
theorem waveportref07_Moved_vc (p0 : Int) (p1 : Int) (p2 : Int) (V : View) (R : Value → View → Prop) 
  (h :
    (p2 : Int) ≠ 0 ∧
    ((decide (((Int.tmod p1 p2) : Int) < 0)) = true →
      (p2 : Int) ≠ 0 ∧
    R (.int .i64 (Int.tmod (IntKind.i64.wrap (p0 + (IntKind.i64.wrap ((Int.tmod p1 p2) + p2)))) p2)) V) ∧
    ((decide (((Int.tmod p1 p2) : Int) < 0)) = false →
      (p2 : Int) ≠ 0 ∧
    R (.int .i64 (Int.tmod (IntKind.i64.wrap (p0 + (Int.tmod p1 p2))) p2)) V)) :
  CallV Try.prog 77 #[.int .i64 p0, .int .i64 p1, .int .i64 p2] V R :=
  calls_of_vc (Shp := Shp) hmixed Try.func77 (c := Try.f77.body.getD .skip) (args := [.int .i64 p0, .int .i64 p1, .int .i64 p2]) (by kernel_rfl)
    (.seq (.reg [⟨6, 2, false⟩]) (.seq (.reg [⟨8, 2, false⟩, ⟨9, 2, false⟩, ⟨10, 12, false⟩, ⟨7, 2, false⟩]) (.seq (.seq (.reg [⟨11, 2, false⟩, ⟨12, 0, false⟩]) (.cond (.reg [⟨13, 2, false⟩, ⟨14, 2, false⟩, ⟨15, 0, false⟩, ⟨7, 2, false⟩]) .leaf)) (.seq (.reg [⟨16, 2, false⟩, ⟨17, 2, false⟩, ⟨18, 0, false⟩, ⟨19, 2, false⟩, ⟨20, 12, false⟩, ⟨6, 2, false⟩]) .leaf))))
    (Eq.mpr (by kernel_rfl) h)

end Go.Proofs.Ytcapadojlaojkaa
