/-
  No cell of these rows narrows 'for every input' (looked for: loops, veiled, ifaces, maps, wideKeys, modest, calm, conditions, laid).
  DERIVED. THE GIVEN ROWS OF THIS SEAT. 7 by the template 'for every input the law returns true; each argument reads behind the call as it read before'; 0 by the template 'total and deterministic' (their statements: YtcapadojlaojkaaGreatTotals.lean).
  GIVEN WITH THE SEED: the statements are not yours to turn. If you find one false, say at which input.
  Laid BY PROGRAM, IN A SANDBOX (cutbox-rows.mjs): the forced cells as the released guide's own fill.sh prints them over the translation 37db192a03d77b84… (all of the seat's roots in one cut). By AI agents, Wed Nov 11 2026. No macro, syntax, notation, axiom, sorry.
-/
import Derived.Test.YtcapadojlaojkaaGreatChecked
import GoSem.Claim
import GoSem.ClaimJoined
import GoSem.ClaimMapViews
import Derived.JoinedTies
import Derived.KernelRfl
namespace Go.Proofs.YtcapadojlaojkaaGreat
/- THE CELL 'sum', in the pinned program and in every row, IS THE sha256 OF THE DUMP (.gsa) THAT YtcapadojlaojkaaGreatProg.lean LOADS. Nothing in Lean hashes anything: it is a label: what it is worth is what the hold of that sum in a sandbox is worth. -/
noncomputable def Tryz.pinned : Pinned := { name := "ytcapadojlaojkaagreat", sum := "37db192a03d77b84bf659072a3e735685db121a17c7389cf23aff18a8ee06b35", checked := Tryz.checked }
namespace Rows
def none {H : Type} : Left H := { results := [], args := [] }

/-- 'waveportlaw02.BoxMakes': WHATEVER THE INPUT: true; the input reads as it did. -/
def boxMakesSpec : ChangeSpec := { name := "boxMakes", fn := fun _ => fun
  | [d] => { results := [.lit (.bool true)], args := [d] }
  | _ => none }
def boxMakesRow : OpenClaim := { program := "ytcapadojlaojkaagreat", sum := "37db192a03d77b84bf659072a3e735685db121a17c7389cf23aff18a8ee06b35", func := "waveport/waveportlaw02.BoxMakes", spec := "boxMakes", inPlace := ["math.Float64bits", "math.Float64frombits"], unfollowed := true, recurses := true, named := ["math/bits.overflowError"], apart := false }
def BoxMakesSaid : Prop := boxMakesRow.holds Tryz.pinned (OpenSpec.ofChange boxMakesSpec)

/-- ITS FALSE NEIGHBOUR: 'it returns false'. Refute it at one input. -/
def boxMakesWrong : ChangeSpec := { name := "boxMakes", fn := fun _ => fun
  | [d] => { results := [.lit (.bool false)], args := [d] }
  | _ => none }
def BoxMakesWrongFalsely : Prop := boxMakesRow.holds Tryz.pinned (OpenSpec.ofChange boxMakesWrong)

/-- 'waveportlaw02.BoxMirrors': WHATEVER THE INPUT: true; the input reads as it did. -/
def boxMirrorsSpec : ChangeSpec := { name := "boxMirrors", fn := fun _ => fun
  | [d1, d2] => { results := [.lit (.bool true)], args := [d1, d2] }
  | _ => none }
def boxMirrorsRow : OpenClaim := { program := "ytcapadojlaojkaagreat", sum := "37db192a03d77b84bf659072a3e735685db121a17c7389cf23aff18a8ee06b35", func := "waveport/waveportlaw02.BoxMirrors", spec := "boxMirrors", inPlace := ["math.Float64bits", "math.Float64frombits"], unfollowed := true, recurses := true, named := ["math/bits.overflowError"], apart := false }
def BoxMirrorsSaid : Prop := boxMirrorsRow.holds Tryz.pinned (OpenSpec.ofChange boxMirrorsSpec)

/-- ITS FALSE NEIGHBOUR: 'it returns false'. Refute it at one input. -/
def boxMirrorsWrong : ChangeSpec := { name := "boxMirrors", fn := fun _ => fun
  | [d1, d2] => { results := [.lit (.bool false)], args := [d1, d2] }
  | _ => none }
def BoxMirrorsWrongFalsely : Prop := boxMirrorsRow.holds Tryz.pinned (OpenSpec.ofChange boxMirrorsWrong)

/-- 'waveportlaw02.BoxLattice': WHATEVER THE INPUT: true; the input reads as it did. -/
def boxLatticeSpec : ChangeSpec := { name := "boxLattice", fn := fun _ => fun
  | [d1, d2, d3] => { results := [.lit (.bool true)], args := [d1, d2, d3] }
  | _ => none }
def boxLatticeRow : OpenClaim := { program := "ytcapadojlaojkaagreat", sum := "37db192a03d77b84bf659072a3e735685db121a17c7389cf23aff18a8ee06b35", func := "waveport/waveportlaw02.BoxLattice", spec := "boxLattice", inPlace := ["math.Float64bits", "math.Float64frombits"], unfollowed := true, recurses := true, named := ["math/bits.overflowError"], apart := false }
def BoxLatticeSaid : Prop := boxLatticeRow.holds Tryz.pinned (OpenSpec.ofChange boxLatticeSpec)

/-- ITS FALSE NEIGHBOUR: 'it returns false'. Refute it at one input. -/
def boxLatticeWrong : ChangeSpec := { name := "boxLattice", fn := fun _ => fun
  | [d1, d2, d3] => { results := [.lit (.bool false)], args := [d1, d2, d3] }
  | _ => none }
def BoxLatticeWrongFalsely : Prop := boxLatticeRow.holds Tryz.pinned (OpenSpec.ofChange boxLatticeWrong)

/-- 'waveportlaw02.BoxPoints': WHATEVER THE INPUT: true; the input reads as it did. -/
def boxPointsSpec : ChangeSpec := { name := "boxPoints", fn := fun _ => fun
  | [d1, d2] => { results := [.lit (.bool true)], args := [d1, d2] }
  | _ => none }
def boxPointsRow : OpenClaim := { program := "ytcapadojlaojkaagreat", sum := "37db192a03d77b84bf659072a3e735685db121a17c7389cf23aff18a8ee06b35", func := "waveport/waveportlaw02.BoxPoints", spec := "boxPoints", inPlace := ["math.Float64bits", "math.Float64frombits"], unfollowed := true, recurses := true, named := ["math/bits.overflowError"], apart := false }
def BoxPointsSaid : Prop := boxPointsRow.holds Tryz.pinned (OpenSpec.ofChange boxPointsSpec)

/-- ITS FALSE NEIGHBOUR: 'it returns false'. Refute it at one input. -/
def boxPointsWrong : ChangeSpec := { name := "boxPoints", fn := fun _ => fun
  | [d1, d2] => { results := [.lit (.bool false)], args := [d1, d2] }
  | _ => none }
def BoxPointsWrongFalsely : Prop := boxPointsRow.holds Tryz.pinned (OpenSpec.ofChange boxPointsWrong)

/-- 'waveportlaw07.TransformLists': WHATEVER THE INPUT: true; the input reads as it did. -/
def transformListsSpec : ChangeSpec := { name := "transformLists", fn := fun _ => fun
  | [d1, d2] => { results := [.lit (.bool true)], args := [d1, d2] }
  | _ => none }
def transformListsRow : OpenClaim := { program := "ytcapadojlaojkaagreat", sum := "37db192a03d77b84bf659072a3e735685db121a17c7389cf23aff18a8ee06b35", func := "waveport/waveportlaw07.TransformLists", spec := "transformLists", unfollowed := true, recurses := true, named := ["math/bits.overflowError"], apart := false }
def TransformListsSaid : Prop := transformListsRow.holds Tryz.pinned (OpenSpec.ofChange transformListsSpec)

/-- ITS FALSE NEIGHBOUR: 'it returns false'. Refute it at one input. -/
def transformListsWrong : ChangeSpec := { name := "transformLists", fn := fun _ => fun
  | [d1, d2] => { results := [.lit (.bool false)], args := [d1, d2] }
  | _ => none }
def TransformListsWrongFalsely : Prop := transformListsRow.holds Tryz.pinned (OpenSpec.ofChange transformListsWrong)

/-- 'waveportlaw07.TransformGates': WHATEVER THE INPUT: true; the input reads as it did. -/
def transformGatesSpec : ChangeSpec := { name := "transformGates", fn := fun _ => fun
  | [d1, d2, d3, d4, d5] => { results := [.lit (.bool true)], args := [d1, d2, d3, d4, d5] }
  | _ => none }
def transformGatesRow : OpenClaim := { program := "ytcapadojlaojkaagreat", sum := "37db192a03d77b84bf659072a3e735685db121a17c7389cf23aff18a8ee06b35", func := "waveport/waveportlaw07.TransformGates", spec := "transformGates", unfollowed := true, recurses := true, named := ["math/bits.overflowError"], apart := false }
def TransformGatesSaid : Prop := transformGatesRow.holds Tryz.pinned (OpenSpec.ofChange transformGatesSpec)

/-- ITS FALSE NEIGHBOUR: 'it returns false'. Refute it at one input. -/
def transformGatesWrong : ChangeSpec := { name := "transformGates", fn := fun _ => fun
  | [d1, d2, d3, d4, d5] => { results := [.lit (.bool false)], args := [d1, d2, d3, d4, d5] }
  | _ => none }
def TransformGatesWrongFalsely : Prop := transformGatesRow.holds Tryz.pinned (OpenSpec.ofChange transformGatesWrong)

/-- 'waveportlaw07.TransformGrids': WHATEVER THE INPUT: true; the input reads as it did. -/
def transformGridsSpec : ChangeSpec := { name := "transformGrids", fn := fun _ => fun
  | [d1, d2, d3, d4, d5] => { results := [.lit (.bool true)], args := [d1, d2, d3, d4, d5] }
  | _ => none }
def transformGridsRow : OpenClaim := { program := "ytcapadojlaojkaagreat", sum := "37db192a03d77b84bf659072a3e735685db121a17c7389cf23aff18a8ee06b35", func := "waveport/waveportlaw07.TransformGrids", spec := "transformGrids", unfollowed := true, recurses := true, named := ["math/bits.overflowError"], apart := false }
def TransformGridsSaid : Prop := transformGridsRow.holds Tryz.pinned (OpenSpec.ofChange transformGridsSpec)

/-- ITS FALSE NEIGHBOUR: 'it returns false'. Refute it at one input. -/
def transformGridsWrong : ChangeSpec := { name := "transformGrids", fn := fun _ => fun
  | [d1, d2, d3, d4, d5] => { results := [.lit (.bool false)], args := [d1, d2, d3, d4, d5] }
  | _ => none }
def TransformGridsWrongFalsely : Prop := transformGridsRow.holds Tryz.pinned (OpenSpec.ofChange transformGridsWrong)

/- THE SECOND FORM. 'bulk': how many values and letters a reading holds, each counted each time it is reached (what is shared counts as often as it is met; a slice's spare places count too). A statement '..UptoSaid' is the law's where the arguments, and the package variables that the reading takes, are together of bulk at most 1048576: NARROWER than '..Said'. Prove '..Said' where nothing that the law and all that it calls make is longer than what came in: it says more and counts as full. Else prove '..UptoSaid'. A law counts once. -/
mutual
def uptoBulk {H : Type} : DataW H → Nat
  | .lit (.string bytes) => bytes.length + 1
  | .lit _ => 1
  | .nil => 1
  | .ptr d => uptoBulk d + 1
  | .slice elems spare => uptoBulkAll elems + uptoBulkAll spare + 1
  | .agg parts => uptoBulkAll parts + 1
  | .iface _ d => uptoBulk d + 1
  | .map entries => uptoBulkEntries entries + 1
  | .held _ => 1
def uptoBulkAll {H : Type} : List (DataW H) → Nat
  | [] => 0
  | d :: r => uptoBulk d + uptoBulkAll r
def uptoBulkEntries {H : Type} : List (Lit × DataW H) → Nat
  | [] => 0
  | x :: r => uptoBulkEntry x + uptoBulkEntries r
def uptoBulkEntry {H : Type} : Lit × DataW H → Nat
  | (.string bytes, d) => bytes.length + uptoBulk d + 1
  | (_, d) => uptoBulk d + 1
 end
def uptoSmall : (H : Type) → List (DataW H) → Bool := fun _ ds => decide (uptoBulkAll ds ≤ 1048576)
def OpenSpec.upto (s : _root_.Go.ChangeSpec) : _root_.Go.OpenSpec := { _root_.Go.OpenSpec.ofChange s with cond := some uptoSmall }

/-- 'waveportlaw02.BoxMakes', WHERE WHAT IT READS IS OF BULK AT MOST 1048576: true; the input reads as it did. -/
def boxMakesUptoRow : OpenClaim := { program := "ytcapadojlaojkaagreat", sum := "37db192a03d77b84bf659072a3e735685db121a17c7389cf23aff18a8ee06b35", func := "waveport/waveportlaw02.BoxMakes", spec := "boxMakes", inPlace := ["math.Float64bits", "math.Float64frombits"], unfollowed := true, recurses := true, named := ["math/bits.overflowError"], apart := false, narrowed := true }
def BoxMakesUptoSaid : Prop := boxMakesUptoRow.holds Tryz.pinned (OpenSpec.upto boxMakesSpec)

/-- 'waveportlaw02.BoxMirrors', WHERE WHAT IT READS IS OF BULK AT MOST 1048576: true; the input reads as it did. -/
def boxMirrorsUptoRow : OpenClaim := { program := "ytcapadojlaojkaagreat", sum := "37db192a03d77b84bf659072a3e735685db121a17c7389cf23aff18a8ee06b35", func := "waveport/waveportlaw02.BoxMirrors", spec := "boxMirrors", inPlace := ["math.Float64bits", "math.Float64frombits"], unfollowed := true, recurses := true, named := ["math/bits.overflowError"], apart := false, narrowed := true }
def BoxMirrorsUptoSaid : Prop := boxMirrorsUptoRow.holds Tryz.pinned (OpenSpec.upto boxMirrorsSpec)

/-- 'waveportlaw02.BoxLattice', WHERE WHAT IT READS IS OF BULK AT MOST 1048576: true; the input reads as it did. -/
def boxLatticeUptoRow : OpenClaim := { program := "ytcapadojlaojkaagreat", sum := "37db192a03d77b84bf659072a3e735685db121a17c7389cf23aff18a8ee06b35", func := "waveport/waveportlaw02.BoxLattice", spec := "boxLattice", inPlace := ["math.Float64bits", "math.Float64frombits"], unfollowed := true, recurses := true, named := ["math/bits.overflowError"], apart := false, narrowed := true }
def BoxLatticeUptoSaid : Prop := boxLatticeUptoRow.holds Tryz.pinned (OpenSpec.upto boxLatticeSpec)

/-- 'waveportlaw02.BoxPoints', WHERE WHAT IT READS IS OF BULK AT MOST 1048576: true; the input reads as it did. -/
def boxPointsUptoRow : OpenClaim := { program := "ytcapadojlaojkaagreat", sum := "37db192a03d77b84bf659072a3e735685db121a17c7389cf23aff18a8ee06b35", func := "waveport/waveportlaw02.BoxPoints", spec := "boxPoints", inPlace := ["math.Float64bits", "math.Float64frombits"], unfollowed := true, recurses := true, named := ["math/bits.overflowError"], apart := false, narrowed := true }
def BoxPointsUptoSaid : Prop := boxPointsUptoRow.holds Tryz.pinned (OpenSpec.upto boxPointsSpec)

/-- 'waveportlaw07.TransformLists', WHERE WHAT IT READS IS OF BULK AT MOST 1048576: true; the input reads as it did. -/
def transformListsUptoRow : OpenClaim := { program := "ytcapadojlaojkaagreat", sum := "37db192a03d77b84bf659072a3e735685db121a17c7389cf23aff18a8ee06b35", func := "waveport/waveportlaw07.TransformLists", spec := "transformLists", unfollowed := true, recurses := true, named := ["math/bits.overflowError"], apart := false, narrowed := true }
def TransformListsUptoSaid : Prop := transformListsUptoRow.holds Tryz.pinned (OpenSpec.upto transformListsSpec)

/-- 'waveportlaw07.TransformGates', WHERE WHAT IT READS IS OF BULK AT MOST 1048576: true; the input reads as it did. -/
def transformGatesUptoRow : OpenClaim := { program := "ytcapadojlaojkaagreat", sum := "37db192a03d77b84bf659072a3e735685db121a17c7389cf23aff18a8ee06b35", func := "waveport/waveportlaw07.TransformGates", spec := "transformGates", unfollowed := true, recurses := true, named := ["math/bits.overflowError"], apart := false, narrowed := true }
def TransformGatesUptoSaid : Prop := transformGatesUptoRow.holds Tryz.pinned (OpenSpec.upto transformGatesSpec)

/-- 'waveportlaw07.TransformGrids', WHERE WHAT IT READS IS OF BULK AT MOST 1048576: true; the input reads as it did. -/
def transformGridsUptoRow : OpenClaim := { program := "ytcapadojlaojkaagreat", sum := "37db192a03d77b84bf659072a3e735685db121a17c7389cf23aff18a8ee06b35", func := "waveport/waveportlaw07.TransformGrids", spec := "transformGrids", unfollowed := true, recurses := true, named := ["math/bits.overflowError"], apart := false, narrowed := true }
def TransformGridsUptoSaid : Prop := transformGridsUptoRow.holds Tryz.pinned (OpenSpec.upto transformGridsSpec)

end Rows
end Go.Proofs.YtcapadojlaojkaaGreat
