/-
  No cell of these rows narrows 'for every input' (looked for: loops, veiled, ifaces, maps, wideKeys, modest, calm, conditions, laid).
  DERIVED. THE GIVEN ROWS OF THIS SEAT. 5 by the template 'for every input the law returns true; each argument reads behind the call as it read before'; 0 by the template 'total and deterministic' (their statements: YtcapadojlaojkaaTotals.lean).
  GIVEN WITH THE SEED: the statements are not yours to turn. If you find one false, say at which input.
  Laid BY PROGRAM, IN A SANDBOX (cutbox-rows.mjs): the forced cells as the released guide's own fill.sh prints them over the translation 62b24c2b7178d560… (all of the seat's roots in one cut). By AI agents, Wed Nov 11 2026. No macro, syntax, notation, axiom, sorry.
-/
import Derived.Test.YtcapadojlaojkaaChecked
import GoSem.Claim
import GoSem.ClaimJoined
import GoSem.ClaimMapViews
import Derived.JoinedTies
import Derived.KernelRfl
namespace Go.Proofs.Ytcapadojlaojkaa
/- THE CELL 'sum', in the pinned program and in every row, IS THE sha256 OF THE DUMP (.gsa) THAT YtcapadojlaojkaaProg.lean LOADS. Nothing in Lean hashes anything: it is a label: what it is worth is what the hold of that sum in a sandbox is worth. -/
noncomputable def Try.pinned : Pinned := { name := "ytcapadojlaojkaa", sum := "62b24c2b7178d5600b22c5c3411762acd3ea64434e0e7366676321522bb5a903", checked := Try.checked }
namespace Rows
def none {H : Type} : Left H := { results := [], args := [] }

/-- 'waveportlaw02.BoxSpans': WHATEVER THE INPUT: true; the input reads as it did. -/
def boxSpansSpec : ChangeSpec := { name := "boxSpans", fn := fun _ => fun
  | [d1, d2] => { results := [.lit (.bool true)], args := [d1, d2] }
  | _ => none }
def boxSpansRow : OpenClaim := { program := "ytcapadojlaojkaa", sum := "62b24c2b7178d5600b22c5c3411762acd3ea64434e0e7366676321522bb5a903", func := "waveport/waveportlaw02.BoxSpans", spec := "boxSpans", inPlace := ["math.Float64bits", "math.Float64frombits"], unfollowed := true, recurses := true, named := ["math/bits.overflowError"], apart := false }
def BoxSpansSaid : Prop := boxSpansRow.holds Try.pinned (OpenSpec.ofChange boxSpansSpec)

/-- ITS FALSE NEIGHBOUR: 'it returns false'. Refute it at one input. -/
def boxSpansWrong : ChangeSpec := { name := "boxSpans", fn := fun _ => fun
  | [d1, d2] => { results := [.lit (.bool false)], args := [d1, d2] }
  | _ => none }
def BoxSpansWrongFalsely : Prop := boxSpansRow.holds Try.pinned (OpenSpec.ofChange boxSpansWrong)

/-- 'waveportlaw02.BoxBelow': WHATEVER THE INPUT: true; the input reads as it did. -/
def boxBelowSpec : ChangeSpec := { name := "boxBelow", fn := fun _ => fun
  | [d1, d2] => { results := [.lit (.bool true)], args := [d1, d2] }
  | _ => none }
def boxBelowRow : OpenClaim := { program := "ytcapadojlaojkaa", sum := "62b24c2b7178d5600b22c5c3411762acd3ea64434e0e7366676321522bb5a903", func := "waveport/waveportlaw02.BoxBelow", spec := "boxBelow", inPlace := ["math.Float64bits", "math.Float64frombits"], unfollowed := true, recurses := true, named := ["math/bits.overflowError"], apart := false }
def BoxBelowSaid : Prop := boxBelowRow.holds Try.pinned (OpenSpec.ofChange boxBelowSpec)

/-- ITS FALSE NEIGHBOUR: 'it returns false'. Refute it at one input. -/
def boxBelowWrong : ChangeSpec := { name := "boxBelow", fn := fun _ => fun
  | [d1, d2] => { results := [.lit (.bool false)], args := [d1, d2] }
  | _ => none }
def BoxBelowWrongFalsely : Prop := boxBelowRow.holds Try.pinned (OpenSpec.ofChange boxBelowWrong)

/-- 'waveportlaw07.TransformFactors': WHATEVER THE INPUT: true; the input reads as it did. -/
def transformFactorsSpec : ChangeSpec := { name := "transformFactors", fn := fun _ => fun
  | [d1, d2] => { results := [.lit (.bool true)], args := [d1, d2] }
  | _ => none }
def transformFactorsRow : OpenClaim := { program := "ytcapadojlaojkaa", sum := "62b24c2b7178d5600b22c5c3411762acd3ea64434e0e7366676321522bb5a903", func := "waveport/waveportlaw07.TransformFactors", spec := "transformFactors", unfollowed := true, recurses := true, named := ["math/bits.overflowError"], apart := false }
def TransformFactorsSaid : Prop := transformFactorsRow.holds Try.pinned (OpenSpec.ofChange transformFactorsSpec)

/-- ITS FALSE NEIGHBOUR: 'it returns false'. Refute it at one input. -/
def transformFactorsWrong : ChangeSpec := { name := "transformFactors", fn := fun _ => fun
  | [d1, d2] => { results := [.lit (.bool false)], args := [d1, d2] }
  | _ => none }
def TransformFactorsWrongFalsely : Prop := transformFactorsRow.holds Try.pinned (OpenSpec.ofChange transformFactorsWrong)

/-- 'waveportlaw07.TransformShifts': WHATEVER THE INPUT: true; the input reads as it did. -/
def transformShiftsSpec : ChangeSpec := { name := "transformShifts", fn := fun _ => fun
  | [d1, d2, d3, d4] => { results := [.lit (.bool true)], args := [d1, d2, d3, d4] }
  | _ => none }
def transformShiftsRow : OpenClaim := { program := "ytcapadojlaojkaa", sum := "62b24c2b7178d5600b22c5c3411762acd3ea64434e0e7366676321522bb5a903", func := "waveport/waveportlaw07.TransformShifts", spec := "transformShifts", unfollowed := true, recurses := true, named := ["math/bits.overflowError"], apart := false }
def TransformShiftsSaid : Prop := transformShiftsRow.holds Try.pinned (OpenSpec.ofChange transformShiftsSpec)

/-- ITS FALSE NEIGHBOUR: 'it returns false'. Refute it at one input. -/
def transformShiftsWrong : ChangeSpec := { name := "transformShifts", fn := fun _ => fun
  | [d1, d2, d3, d4] => { results := [.lit (.bool false)], args := [d1, d2, d3, d4] }
  | _ => none }
def TransformShiftsWrongFalsely : Prop := transformShiftsRow.holds Try.pinned (OpenSpec.ofChange transformShiftsWrong)

/-- 'waveportlaw07.TransformLong': WHATEVER THE INPUT: true; the input reads as it did. -/
def transformLongSpec : ChangeSpec := { name := "transformLong", fn := fun _ => fun
  | [d1, d2, d3, d4] => { results := [.lit (.bool true)], args := [d1, d2, d3, d4] }
  | _ => none }
def transformLongRow : OpenClaim := { program := "ytcapadojlaojkaa", sum := "62b24c2b7178d5600b22c5c3411762acd3ea64434e0e7366676321522bb5a903", func := "waveport/waveportlaw07.TransformLong", spec := "transformLong", unfollowed := true, recurses := true, named := ["math/bits.overflowError"], apart := false }
def TransformLongSaid : Prop := transformLongRow.holds Try.pinned (OpenSpec.ofChange transformLongSpec)

/-- ITS FALSE NEIGHBOUR: 'it returns false'. Refute it at one input. -/
def transformLongWrong : ChangeSpec := { name := "transformLong", fn := fun _ => fun
  | [d1, d2, d3, d4] => { results := [.lit (.bool false)], args := [d1, d2, d3, d4] }
  | _ => none }
def TransformLongWrongFalsely : Prop := transformLongRow.holds Try.pinned (OpenSpec.ofChange transformLongWrong)

/- THE SECOND FORM. 'bulk': how many values and letters a reading holds, each counted each time it is reached (what is shared counts as often as it is met; a slice's spare places count too). A statement '..UptoSaid' is the law's where the arguments, and the package variables that the reading takes, are together of bulk at most 1048576: NARROWER than '..Said'. Prove '..Said' where nothing that the law and all that it calls make is longer than what came in: it says more and counts as full. Else prove '..UptoSaid'. A law counts once. -/
mutual
def uptoBulk {H : Type} : DataW H → Nat
  | .lit (.string bytes) => bytes.length + 1
  | .lit _ => 1
  | .nil => 1
  | .ptr d => uptoBulk d + 1
  | .slice elems spare => uptoBulkAll elems + uptoBulkAll spare + 1
  | .agg parts => uptoBulkAll parts + 1
  | .iface _ d => uptoBulk d + 1
  | .map entries => uptoBulkEntries entries + 1
  | .held _ => 1
def uptoBulkAll {H : Type} : List (DataW H) → Nat
  | [] => 0
  | d :: r => uptoBulk d + uptoBulkAll r
def uptoBulkEntries {H : Type} : List (Lit × DataW H) → Nat
  | [] => 0
  | x :: r => uptoBulkEntry x + uptoBulkEntries r
def uptoBulkEntry {H : Type} : Lit × DataW H → Nat
  | (.string bytes, d) => bytes.length + uptoBulk d + 1
  | (_, d) => uptoBulk d + 1
 end
def uptoSmall : (H : Type) → List (DataW H) → Bool := fun _ ds => decide (uptoBulkAll ds ≤ 1048576)
def OpenSpec.upto (s : _root_.Go.ChangeSpec) : _root_.Go.OpenSpec := { _root_.Go.OpenSpec.ofChange s with cond := some uptoSmall }

/-- 'waveportlaw02.BoxSpans', WHERE WHAT IT READS IS OF BULK AT MOST 1048576: true; the input reads as it did. -/
def boxSpansUptoRow : OpenClaim := { program := "ytcapadojlaojkaa", sum := "62b24c2b7178d5600b22c5c3411762acd3ea64434e0e7366676321522bb5a903", func := "waveport/waveportlaw02.BoxSpans", spec := "boxSpans", inPlace := ["math.Float64bits", "math.Float64frombits"], unfollowed := true, recurses := true, named := ["math/bits.overflowError"], apart := false, narrowed := true }
def BoxSpansUptoSaid : Prop := boxSpansUptoRow.holds Try.pinned (OpenSpec.upto boxSpansSpec)

/-- 'waveportlaw02.BoxBelow', WHERE WHAT IT READS IS OF BULK AT MOST 1048576: true; the input reads as it did. -/
def boxBelowUptoRow : OpenClaim := { program := "ytcapadojlaojkaa", sum := "62b24c2b7178d5600b22c5c3411762acd3ea64434e0e7366676321522bb5a903", func := "waveport/waveportlaw02.BoxBelow", spec := "boxBelow", inPlace := ["math.Float64bits", "math.Float64frombits"], unfollowed := true, recurses := true, named := ["math/bits.overflowError"], apart := false, narrowed := true }
def BoxBelowUptoSaid : Prop := boxBelowUptoRow.holds Try.pinned (OpenSpec.upto boxBelowSpec)

/-- 'waveportlaw07.TransformFactors', WHERE WHAT IT READS IS OF BULK AT MOST 1048576: true; the input reads as it did. -/
def transformFactorsUptoRow : OpenClaim := { program := "ytcapadojlaojkaa", sum := "62b24c2b7178d5600b22c5c3411762acd3ea64434e0e7366676321522bb5a903", func := "waveport/waveportlaw07.TransformFactors", spec := "transformFactors", unfollowed := true, recurses := true, named := ["math/bits.overflowError"], apart := false, narrowed := true }
def TransformFactorsUptoSaid : Prop := transformFactorsUptoRow.holds Try.pinned (OpenSpec.upto transformFactorsSpec)

/-- 'waveportlaw07.TransformShifts', WHERE WHAT IT READS IS OF BULK AT MOST 1048576: true; the input reads as it did. -/
def transformShiftsUptoRow : OpenClaim := { program := "ytcapadojlaojkaa", sum := "62b24c2b7178d5600b22c5c3411762acd3ea64434e0e7366676321522bb5a903", func := "waveport/waveportlaw07.TransformShifts", spec := "transformShifts", unfollowed := true, recurses := true, named := ["math/bits.overflowError"], apart := false, narrowed := true }
def TransformShiftsUptoSaid : Prop := transformShiftsUptoRow.holds Try.pinned (OpenSpec.upto transformShiftsSpec)

/-- 'waveportlaw07.TransformLong', WHERE WHAT IT READS IS OF BULK AT MOST 1048576: true; the input reads as it did. -/
def transformLongUptoRow : OpenClaim := { program := "ytcapadojlaojkaa", sum := "62b24c2b7178d5600b22c5c3411762acd3ea64434e0e7366676321522bb5a903", func := "waveport/waveportlaw07.TransformLong", spec := "transformLong", unfollowed := true, recurses := true, named := ["math/bits.overflowError"], apart := false, narrowed := true }
def TransformLongUptoSaid : Prop := transformLongUptoRow.holds Try.pinned (OpenSpec.upto transformLongSpec)

end Rows
end Go.Proofs.Ytcapadojlaojkaa
