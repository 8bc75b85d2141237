/- Part of the proof; it has the parts FLen. -/
import Derived.Test.YtkibfmnkkiakoaaGreatGFl1
set_option maxRecDepth 100000
set_option maxHeartbeats 4000000
namespace Go.Proofs.YtkibfmnkkiakoaaGreat
open Go Go.Vc Go.Proofs

/-- (waveport/num.nat).len -/
theorem nat_len_vc (p0 : Sl) (V : View) (R : Value → View → Prop) 
  (h :
    ((((p0.len : Int) : Int) == 0) = true →
      R (.int .i64 0) V) ∧
    ((((p0.len : Int) : Int) == 0) = false →
      ((0 : Int) ≤ (IntKind.i64.wrap ((p0.len : Int) - 1)) ∧ ((IntKind.i64.wrap ((p0.len : Int) - 1)) : Int) < (p0.len : Nat) ∧ Option.isSome p0.a = true) ∧
    ∃ x1 : Int, View.load V (Option.map (fun q => Addr.add q (Int.toNat (IntKind.i64.wrap ((p0.len : Int) - 1)) * 1)) p0.a) = some (.int .u32 x1) ∧
    CallV Tryz.prog 281 #[.int .u32 x1] V fun v V1 => ∃ r1 : Int, v = .int .i64 r1 ∧ -- math/bits.Len32
    R (.int .i64 (IntKind.i64.wrap ((IntKind.i64.wrap (32 * (IntKind.i64.wrap ((p0.len : Int) - 1)))) + r1))) V1)) :
  CallV Tryz.prog 256 #[p0.v] V R :=
  calls_of_vc (Shp := Shp) hmixed Tryz.func256 (c := Tryz.f256.body.getD .skip) (args := [p0.v]) (by kernel_rfl)
    (.seq (.reg [⟨2, 2, false⟩]) (.seq (.seq (.reg [⟨3, 2, false⟩, ⟨4, 0, false⟩, ⟨5, 0, false⟩]) (.cond (.seq (.reg [⟨2, 2, false⟩]) .leaf) .leaf)) (.seq (.reg [⟨6, 2, false⟩, ⟨7, 0, false⟩, ⟨8, 0, false⟩, ⟨9, 0, false⟩, ⟨10, 2, false⟩, ⟨11, 2, false⟩, ⟨12, 0, false⟩, ⟨13, 0, false⟩, ⟨14, 7, false⟩, ⟨15, 5, false⟩, ⟨16, 10, false⟩, ⟨17, 0, false⟩, ⟨2, 2, false⟩]) .leaf)))
    (Eq.mpr (by kernel_rfl) h)

end Go.Proofs.YtkibfmnkkiakoaaGreat
