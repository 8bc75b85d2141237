/- Part of the proof; it has the parts FFac. -/
import Derived.Test.YtcapadojlaojkaaFStage
set_option maxRecDepth 100000
set_option maxHeartbeats 4000000
namespace Go.Proofs.Ytcapadojlaojkaa
open Go Go.Vc Go.Proofs

/-- waveport/waveportlaw07.TransformFactors -/
theorem waveportlaw07_TransformFactors_vc (p0 : Int) (p1 : Int) (V : View) (R : Value → View → Prop) 
  (h :
    CallV Try.prog 18 #[.int .i64 p0] V fun v V1 => ∃ (r1 : Sl) (r2 : Int), v = .tuple #[r1.v, .int .i64 r2] ∧ -- transform.Exact
    CallV Try.prog 19 #[.int .i64 p0] V1 fun v V2 => ∃ (r3 : Sl) (r4 : Int), v = .tuple #[r3.v, .int .i64 r4] ∧ -- waveportref07.Exact
    CallV Try.prog 20 #[.int .i64 p1, .int .i64 p0] V2 fun v V3 => ∃ (r5 : Sl) (r6 : Int), v = .tuple #[r5.v, .int .i64 r6] ∧ -- transform.Window
    CallV Try.prog 21 #[.int .i64 p1, .int .i64 p0] V3 fun v V4 => ∃ (r7 : Sl) (r8 : Int), v = .tuple #[r7.v, .int .i64 r8] ∧ -- waveportref07.Window
    CallV Try.prog 22 #[r1.v, .int .i64 r2, r3.v, .int .i64 r4] V4 fun v V5 => ∃ r9 : Bool, v = .bool r9 ∧ -- waveportlaw07.answers
    (r9 = true →
    CallV Try.prog 22 #[r5.v, .int .i64 r6, r7.v, .int .i64 r8] V5 fun v V6 => ∃ r10 : Bool, v = .bool r10 ∧ -- waveportlaw07.answers
    (r10 = true →
    CallV Try.prog 23 #[] V6 fun v V7 => ∃ r11 : Bool, v = .bool r11 ∧ -- waveportlaw07.awake
    R (.bool r11) V7) ∧
    (r10 = false →
    R (.bool false) V6)) ∧
    (r9 = false →
    (false = true →
    CallV Try.prog 23 #[] V5 fun v V8 => ∃ r12 : Bool, v = .bool r12 ∧ -- waveportlaw07.awake
    R (.bool r12) V8) ∧
    (false = false →
    R (.bool false) V5))) :
  CallV Try.prog 5 #[.int .i64 p0, .int .i64 p1] V R :=
  calls_of_vc (Shp := Shp) hmixed Try.func5 (c := Try.f5.body.getD .skip) (args := [.int .i64 p0, .int .i64 p1]) (by kernel_rfl)
    (.seq (.reg [⟨4, 2, false⟩]) (.seq (.reg [⟨14, 2, false⟩, ⟨15, 10, false⟩, ⟨13, 2, false⟩, ⟨16, 0, false⟩, ⟨17, 0, false⟩, ⟨5, 2, false⟩, ⟨6, 2, false⟩]) (.seq (.reg [⟨19, 2, false⟩, ⟨20, 10, false⟩, ⟨18, 2, false⟩, ⟨21, 0, false⟩, ⟨22, 0, false⟩, ⟨7, 2, false⟩, ⟨8, 2, false⟩]) (.seq (.reg [⟨24, 2, false⟩, ⟨25, 2, false⟩, ⟨26, 10, false⟩, ⟨23, 2, false⟩, ⟨27, 0, false⟩, ⟨28, 0, false⟩, ⟨9, 2, false⟩, ⟨10, 2, false⟩]) (.seq (.reg [⟨30, 2, false⟩, ⟨31, 2, false⟩, ⟨32, 10, false⟩, ⟨29, 2, false⟩, ⟨33, 0, false⟩, ⟨34, 0, false⟩, ⟨11, 2, false⟩, ⟨12, 2, false⟩]) (.seq (.reg [⟨35, 2, false⟩, ⟨36, 2, false⟩, ⟨37, 2, false⟩, ⟨38, 2, false⟩, ⟨39, 10, false⟩, ⟨40, 2, true⟩, ⟨41, 2, false⟩, ⟨42, 2, false⟩, ⟨43, 2, false⟩, ⟨44, 2, false⟩, ⟨45, 10, false⟩, ⟨46, 2, false⟩, ⟨47, 2, true⟩, ⟨48, 10, false⟩, ⟨49, 2, false⟩, ⟨4, 2, false⟩]) .leaf))))))
    (Eq.mpr (by kernel_rfl) h)

end Go.Proofs.Ytcapadojlaojkaa
