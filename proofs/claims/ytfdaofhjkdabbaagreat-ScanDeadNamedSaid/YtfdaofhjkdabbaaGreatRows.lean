/-
  No cell of these rows narrows 'for every input' (looked for: loops, veiled, ifaces, maps, wideKeys, modest, calm, conditions, laid).
  DERIVED. THE GIVEN ROWS OF THIS SEAT. 9 by the template 'for every input the law returns true; each argument reads behind the call as it read before'; 0 by the template 'total and deterministic' (their statements: YtfdaofhjkdabbaaGreatTotals.lean).
  GIVEN WITH THE SEED: the statements are not yours to turn. If you find one false, say at which input.
  Laid BY PROGRAM, IN A SANDBOX (cutbox-rows.mjs): the forced cells as the released guide's own fill.sh prints them over the translation 89ce004b3b877776… (all of the seat's roots in one cut). By AI agents, Wed Nov 11 2026. No macro, syntax, notation, axiom, sorry.
-/
import Derived.Test.YtfdaofhjkdabbaaGreatChecked
import GoSem.Claim
import GoSem.ClaimJoined
import GoSem.ClaimMapViews
import Derived.JoinedTies
import Derived.KernelRfl
namespace Go.Proofs.YtfdaofhjkdabbaaGreat
/- THE CELL 'sum', in the pinned program and in every row, IS THE sha256 OF THE DUMP (.gsa) THAT YtfdaofhjkdabbaaGreatProg.lean LOADS. Nothing in Lean hashes anything: it is a label: what it is worth is what the hold of that sum in a sandbox is worth. -/
noncomputable def Tryz.pinned : Pinned := { name := "ytfdaofhjkdabbaagreat", sum := "89ce004b3b877776b34dd586f59ce4ce57da46c03683021e35c9abca152582e2", checked := Tryz.checked }
namespace Rows
def none {H : Type} : Left H := { results := [], args := [] }

/-- 'waveportlaw07.TransformGrids': WHATEVER THE INPUT: true; the input reads as it did. -/
def transformGridsSpec : ChangeSpec := { name := "transformGrids", fn := fun _ => fun
  | [d1, d2, d3, d4, d5] => { results := [.lit (.bool true)], args := [d1, d2, d3, d4, d5] }
  | _ => none }
def transformGridsRow : OpenClaim := { program := "ytfdaofhjkdabbaagreat", sum := "89ce004b3b877776b34dd586f59ce4ce57da46c03683021e35c9abca152582e2", func := "waveport/waveportlaw07.TransformGrids", spec := "transformGrids", unfollowed := true, recurses := true, named := ["math/bits.overflowError"], apart := false }
def TransformGridsSaid : Prop := transformGridsRow.holds Tryz.pinned (OpenSpec.ofChange transformGridsSpec)

/-- ITS FALSE NEIGHBOUR: 'it returns false'. Refute it at one input. -/
def transformGridsWrong : ChangeSpec := { name := "transformGrids", fn := fun _ => fun
  | [d1, d2, d3, d4, d5] => { results := [.lit (.bool false)], args := [d1, d2, d3, d4, d5] }
  | _ => none }
def TransformGridsWrongFalsely : Prop := transformGridsRow.holds Tryz.pinned (OpenSpec.ofChange transformGridsWrong)

/-- 'waveportlaw07.TransformBoxLists': WHATEVER THE INPUT: true; the input reads as it did. -/
def transformBoxListsSpec : ChangeSpec := { name := "transformBoxLists", fn := fun _ => fun
  | [d1, d2, d3, d4, d5] => { results := [.lit (.bool true)], args := [d1, d2, d3, d4, d5] }
  | _ => none }
def transformBoxListsRow : OpenClaim := { program := "ytfdaofhjkdabbaagreat", sum := "89ce004b3b877776b34dd586f59ce4ce57da46c03683021e35c9abca152582e2", func := "waveport/waveportlaw07.TransformBoxLists", spec := "transformBoxLists", inPlace := ["math.Float64frombits", "math.Float64bits"], unfollowed := true, recurses := true, named := ["math/bits.overflowError"], apart := false }
def TransformBoxListsSaid : Prop := transformBoxListsRow.holds Tryz.pinned (OpenSpec.ofChange transformBoxListsSpec)

/-- ITS FALSE NEIGHBOUR: 'it returns false'. Refute it at one input. -/
def transformBoxListsWrong : ChangeSpec := { name := "transformBoxLists", fn := fun _ => fun
  | [d1, d2, d3, d4, d5] => { results := [.lit (.bool false)], args := [d1, d2, d3, d4, d5] }
  | _ => none }
def TransformBoxListsWrongFalsely : Prop := transformBoxListsRow.holds Tryz.pinned (OpenSpec.ofChange transformBoxListsWrong)

/-- 'waveportlaw08.ScanFits': WHATEVER THE INPUT: true; the input reads as it did. -/
def scanFitsSpec : ChangeSpec := { name := "scanFits", fn := fun _ => fun
  | [d1, d2] => { results := [.lit (.bool true)], args := [d1, d2] }
  | _ => none }
def scanFitsRow : OpenClaim := { program := "ytfdaofhjkdabbaagreat", sum := "89ce004b3b877776b34dd586f59ce4ce57da46c03683021e35c9abca152582e2", func := "waveport/waveportlaw08.ScanFits", spec := "scanFits", unfollowed := true, recurses := true, named := ["math/bits.overflowError"], apart := false }
def ScanFitsSaid : Prop := scanFitsRow.holds Tryz.pinned (OpenSpec.ofChange scanFitsSpec)

/-- ITS FALSE NEIGHBOUR: 'it returns false'. Refute it at one input. -/
def scanFitsWrong : ChangeSpec := { name := "scanFits", fn := fun _ => fun
  | [d1, d2] => { results := [.lit (.bool false)], args := [d1, d2] }
  | _ => none }
def ScanFitsWrongFalsely : Prop := scanFitsRow.holds Tryz.pinned (OpenSpec.ofChange scanFitsWrong)

/-- 'waveportlaw08.ScanFitBack': WHATEVER THE INPUT: true; the input reads as it did. -/
def scanFitBackSpec : ChangeSpec := { name := "scanFitBack", fn := fun _ => fun
  | [d1, d2, d3] => { results := [.lit (.bool true)], args := [d1, d2, d3] }
  | _ => none }
def scanFitBackRow : OpenClaim := { program := "ytfdaofhjkdabbaagreat", sum := "89ce004b3b877776b34dd586f59ce4ce57da46c03683021e35c9abca152582e2", func := "waveport/waveportlaw08.ScanFitBack", spec := "scanFitBack", unfollowed := true, recurses := true, named := ["math/bits.overflowError"], apart := false }
def ScanFitBackSaid : Prop := scanFitBackRow.holds Tryz.pinned (OpenSpec.ofChange scanFitBackSpec)

/-- ITS FALSE NEIGHBOUR: 'it returns false'. Refute it at one input. -/
def scanFitBackWrong : ChangeSpec := { name := "scanFitBack", fn := fun _ => fun
  | [d1, d2, d3] => { results := [.lit (.bool false)], args := [d1, d2, d3] }
  | _ => none }
def ScanFitBackWrongFalsely : Prop := scanFitBackRow.holds Tryz.pinned (OpenSpec.ofChange scanFitBackWrong)

/-- 'waveportlaw08.ScanModes': WHATEVER THE INPUT: true; the input reads as it did. -/
def scanModesSpec : ChangeSpec := { name := "scanModes", fn := fun _ => fun
  | [d1, d2, d3] => { results := [.lit (.bool true)], args := [d1, d2, d3] }
  | _ => none }
def scanModesRow : OpenClaim := { program := "ytfdaofhjkdabbaagreat", sum := "89ce004b3b877776b34dd586f59ce4ce57da46c03683021e35c9abca152582e2", func := "waveport/waveportlaw08.ScanModes", spec := "scanModes", unfollowed := true, recurses := true, named := ["math/bits.overflowError"], apart := false }
def ScanModesSaid : Prop := scanModesRow.holds Tryz.pinned (OpenSpec.ofChange scanModesSpec)

/-- ITS FALSE NEIGHBOUR: 'it returns false'. Refute it at one input. -/
def scanModesWrong : ChangeSpec := { name := "scanModes", fn := fun _ => fun
  | [d1, d2, d3] => { results := [.lit (.bool false)], args := [d1, d2, d3] }
  | _ => none }
def ScanModesWrongFalsely : Prop := scanModesRow.holds Tryz.pinned (OpenSpec.ofChange scanModesWrong)

/-- 'waveportlaw07.TransformBoxes': WHATEVER THE INPUT: true; the input reads as it did. -/
def transformBoxesSpec : ChangeSpec := { name := "transformBoxes", fn := fun _ => fun
  | [d1, d2, d3, d4] => { results := [.lit (.bool true)], args := [d1, d2, d3, d4] }
  | _ => none }
def transformBoxesRow : OpenClaim := { program := "ytfdaofhjkdabbaagreat", sum := "89ce004b3b877776b34dd586f59ce4ce57da46c03683021e35c9abca152582e2", func := "waveport/waveportlaw07.TransformBoxes", spec := "transformBoxes", inPlace := ["math.Float64frombits", "math.Float64bits"], unfollowed := true, recurses := true, named := ["math/bits.overflowError"], apart := false }
def TransformBoxesSaid : Prop := transformBoxesRow.holds Tryz.pinned (OpenSpec.ofChange transformBoxesSpec)

/-- ITS FALSE NEIGHBOUR: 'it returns false'. Refute it at one input. -/
def transformBoxesWrong : ChangeSpec := { name := "transformBoxes", fn := fun _ => fun
  | [d1, d2, d3, d4] => { results := [.lit (.bool false)], args := [d1, d2, d3, d4] }
  | _ => none }
def TransformBoxesWrongFalsely : Prop := transformBoxesRow.holds Tryz.pinned (OpenSpec.ofChange transformBoxesWrong)

/-- 'waveportlaw08.ScanDeadNamed': WHATEVER THE INPUT: true; the input reads as it did. -/
def scanDeadNamedSpec : ChangeSpec := { name := "scanDeadNamed", fn := fun _ => fun
  | [d1, d2, d3, d4, d5, d6, d7] => { results := [.lit (.bool true)], args := [d1, d2, d3, d4, d5, d6, d7] }
  | _ => none }
def scanDeadNamedRow : OpenClaim := { program := "ytfdaofhjkdabbaagreat", sum := "89ce004b3b877776b34dd586f59ce4ce57da46c03683021e35c9abca152582e2", func := "waveport/waveportlaw08.ScanDeadNamed", spec := "scanDeadNamed", inPlace := ["math.Float64bits", "math.Float64frombits"], unfollowed := true, recurses := true, named := ["math/bits.overflowError"], apart := false }
def ScanDeadNamedSaid : Prop := scanDeadNamedRow.holds Tryz.pinned (OpenSpec.ofChange scanDeadNamedSpec)

/-- ITS FALSE NEIGHBOUR: 'it returns false'. Refute it at one input. -/
def scanDeadNamedWrong : ChangeSpec := { name := "scanDeadNamed", fn := fun _ => fun
  | [d1, d2, d3, d4, d5, d6, d7] => { results := [.lit (.bool false)], args := [d1, d2, d3, d4, d5, d6, d7] }
  | _ => none }
def ScanDeadNamedWrongFalsely : Prop := scanDeadNamedRow.holds Tryz.pinned (OpenSpec.ofChange scanDeadNamedWrong)

/-- 'waveportlaw08.ScanDead': WHATEVER THE INPUT: true; the input reads as it did. -/
def scanDeadSpec : ChangeSpec := { name := "scanDead", fn := fun _ => fun
  | [d1, d2] => { results := [.lit (.bool true)], args := [d1, d2] }
  | _ => none }
def scanDeadRow : OpenClaim := { program := "ytfdaofhjkdabbaagreat", sum := "89ce004b3b877776b34dd586f59ce4ce57da46c03683021e35c9abca152582e2", func := "waveport/waveportlaw08.ScanDead", spec := "scanDead", inPlace := ["math.Float64bits", "math.Float64frombits"], unfollowed := true, recurses := true, named := ["math/bits.overflowError"], apart := false }
def ScanDeadSaid : Prop := scanDeadRow.holds Tryz.pinned (OpenSpec.ofChange scanDeadSpec)

/-- ITS FALSE NEIGHBOUR: 'it returns false'. Refute it at one input. -/
def scanDeadWrong : ChangeSpec := { name := "scanDead", fn := fun _ => fun
  | [d1, d2] => { results := [.lit (.bool false)], args := [d1, d2] }
  | _ => none }
def ScanDeadWrongFalsely : Prop := scanDeadRow.holds Tryz.pinned (OpenSpec.ofChange scanDeadWrong)

/-- 'waveportlaw08.ScanPatterns': WHATEVER THE INPUT: true; the input reads as it did. -/
def scanPatternsSpec : ChangeSpec := { name := "scanPatterns", fn := fun _ => fun
  | [d1, d2, d3, d4] => { results := [.lit (.bool true)], args := [d1, d2, d3, d4] }
  | _ => none }
def scanPatternsRow : OpenClaim := { program := "ytfdaofhjkdabbaagreat", sum := "89ce004b3b877776b34dd586f59ce4ce57da46c03683021e35c9abca152582e2", func := "waveport/waveportlaw08.ScanPatterns", spec := "scanPatterns", inPlace := ["math.Float64bits", "math.Float64frombits", "math.Float32bits"], unfollowed := true, recurses := true, named := ["math/bits.overflowError"], apart := false }
def ScanPatternsSaid : Prop := scanPatternsRow.holds Tryz.pinned (OpenSpec.ofChange scanPatternsSpec)

/-- ITS FALSE NEIGHBOUR: 'it returns false'. Refute it at one input. -/
def scanPatternsWrong : ChangeSpec := { name := "scanPatterns", fn := fun _ => fun
  | [d1, d2, d3, d4] => { results := [.lit (.bool false)], args := [d1, d2, d3, d4] }
  | _ => none }
def ScanPatternsWrongFalsely : Prop := scanPatternsRow.holds Tryz.pinned (OpenSpec.ofChange scanPatternsWrong)

/- THE SECOND FORM. 'bulk': how many values and letters a reading holds, each counted each time it is reached (what is shared counts as often as it is met; a slice's spare places count too). A statement '..UptoSaid' is the law's where the arguments, and the package variables that the reading takes, are together of bulk at most 1048576: NARROWER than '..Said'. Prove '..Said' where nothing that the law and all that it calls make is longer than what came in: it says more and counts as full. Else prove '..UptoSaid'. A law counts once. -/
mutual
def uptoBulk {H : Type} : DataW H → Nat
  | .lit (.string bytes) => bytes.length + 1
  | .lit _ => 1
  | .nil => 1
  | .ptr d => uptoBulk d + 1
  | .slice elems spare => uptoBulkAll elems + uptoBulkAll spare + 1
  | .agg parts => uptoBulkAll parts + 1
  | .iface _ d => uptoBulk d + 1
  | .map entries => uptoBulkEntries entries + 1
  | .held _ => 1
def uptoBulkAll {H : Type} : List (DataW H) → Nat
  | [] => 0
  | d :: r => uptoBulk d + uptoBulkAll r
def uptoBulkEntries {H : Type} : List (Lit × DataW H) → Nat
  | [] => 0
  | x :: r => uptoBulkEntry x + uptoBulkEntries r
def uptoBulkEntry {H : Type} : Lit × DataW H → Nat
  | (.string bytes, d) => bytes.length + uptoBulk d + 1
  | (_, d) => uptoBulk d + 1
 end
def uptoSmall : (H : Type) → List (DataW H) → Bool := fun _ ds => decide (uptoBulkAll ds ≤ 1048576)
def OpenSpec.upto (s : _root_.Go.ChangeSpec) : _root_.Go.OpenSpec := { _root_.Go.OpenSpec.ofChange s with cond := some uptoSmall }

/-- 'waveportlaw07.TransformGrids', WHERE WHAT IT READS IS OF BULK AT MOST 1048576: true; the input reads as it did. -/
def transformGridsUptoRow : OpenClaim := { program := "ytfdaofhjkdabbaagreat", sum := "89ce004b3b877776b34dd586f59ce4ce57da46c03683021e35c9abca152582e2", func := "waveport/waveportlaw07.TransformGrids", spec := "transformGrids", unfollowed := true, recurses := true, named := ["math/bits.overflowError"], apart := false, narrowed := true }
def TransformGridsUptoSaid : Prop := transformGridsUptoRow.holds Tryz.pinned (OpenSpec.upto transformGridsSpec)

/-- 'waveportlaw07.TransformBoxLists', WHERE WHAT IT READS IS OF BULK AT MOST 1048576: true; the input reads as it did. -/
def transformBoxListsUptoRow : OpenClaim := { program := "ytfdaofhjkdabbaagreat", sum := "89ce004b3b877776b34dd586f59ce4ce57da46c03683021e35c9abca152582e2", func := "waveport/waveportlaw07.TransformBoxLists", spec := "transformBoxLists", inPlace := ["math.Float64frombits", "math.Float64bits"], unfollowed := true, recurses := true, named := ["math/bits.overflowError"], apart := false, narrowed := true }
def TransformBoxListsUptoSaid : Prop := transformBoxListsUptoRow.holds Tryz.pinned (OpenSpec.upto transformBoxListsSpec)

/-- 'waveportlaw08.ScanFits', WHERE WHAT IT READS IS OF BULK AT MOST 1048576: true; the input reads as it did. -/
def scanFitsUptoRow : OpenClaim := { program := "ytfdaofhjkdabbaagreat", sum := "89ce004b3b877776b34dd586f59ce4ce57da46c03683021e35c9abca152582e2", func := "waveport/waveportlaw08.ScanFits", spec := "scanFits", unfollowed := true, recurses := true, named := ["math/bits.overflowError"], apart := false, narrowed := true }
def ScanFitsUptoSaid : Prop := scanFitsUptoRow.holds Tryz.pinned (OpenSpec.upto scanFitsSpec)

/-- 'waveportlaw08.ScanFitBack', WHERE WHAT IT READS IS OF BULK AT MOST 1048576: true; the input reads as it did. -/
def scanFitBackUptoRow : OpenClaim := { program := "ytfdaofhjkdabbaagreat", sum := "89ce004b3b877776b34dd586f59ce4ce57da46c03683021e35c9abca152582e2", func := "waveport/waveportlaw08.ScanFitBack", spec := "scanFitBack", unfollowed := true, recurses := true, named := ["math/bits.overflowError"], apart := false, narrowed := true }
def ScanFitBackUptoSaid : Prop := scanFitBackUptoRow.holds Tryz.pinned (OpenSpec.upto scanFitBackSpec)

/-- 'waveportlaw08.ScanModes', WHERE WHAT IT READS IS OF BULK AT MOST 1048576: true; the input reads as it did. -/
def scanModesUptoRow : OpenClaim := { program := "ytfdaofhjkdabbaagreat", sum := "89ce004b3b877776b34dd586f59ce4ce57da46c03683021e35c9abca152582e2", func := "waveport/waveportlaw08.ScanModes", spec := "scanModes", unfollowed := true, recurses := true, named := ["math/bits.overflowError"], apart := false, narrowed := true }
def ScanModesUptoSaid : Prop := scanModesUptoRow.holds Tryz.pinned (OpenSpec.upto scanModesSpec)

/-- 'waveportlaw07.TransformBoxes', WHERE WHAT IT READS IS OF BULK AT MOST 1048576: true; the input reads as it did. -/
def transformBoxesUptoRow : OpenClaim := { program := "ytfdaofhjkdabbaagreat", sum := "89ce004b3b877776b34dd586f59ce4ce57da46c03683021e35c9abca152582e2", func := "waveport/waveportlaw07.TransformBoxes", spec := "transformBoxes", inPlace := ["math.Float64frombits", "math.Float64bits"], unfollowed := true, recurses := true, named := ["math/bits.overflowError"], apart := false, narrowed := true }
def TransformBoxesUptoSaid : Prop := transformBoxesUptoRow.holds Tryz.pinned (OpenSpec.upto transformBoxesSpec)

/-- 'waveportlaw08.ScanDeadNamed', WHERE WHAT IT READS IS OF BULK AT MOST 1048576: true; the input reads as it did. -/
def scanDeadNamedUptoRow : OpenClaim := { program := "ytfdaofhjkdabbaagreat", sum := "89ce004b3b877776b34dd586f59ce4ce57da46c03683021e35c9abca152582e2", func := "waveport/waveportlaw08.ScanDeadNamed", spec := "scanDeadNamed", inPlace := ["math.Float64bits", "math.Float64frombits"], unfollowed := true, recurses := true, named := ["math/bits.overflowError"], apart := false, narrowed := true }
def ScanDeadNamedUptoSaid : Prop := scanDeadNamedUptoRow.holds Tryz.pinned (OpenSpec.upto scanDeadNamedSpec)

/-- 'waveportlaw08.ScanDead', WHERE WHAT IT READS IS OF BULK AT MOST 1048576: true; the input reads as it did. -/
def scanDeadUptoRow : OpenClaim := { program := "ytfdaofhjkdabbaagreat", sum := "89ce004b3b877776b34dd586f59ce4ce57da46c03683021e35c9abca152582e2", func := "waveport/waveportlaw08.ScanDead", spec := "scanDead", inPlace := ["math.Float64bits", "math.Float64frombits"], unfollowed := true, recurses := true, named := ["math/bits.overflowError"], apart := false, narrowed := true }
def ScanDeadUptoSaid : Prop := scanDeadUptoRow.holds Tryz.pinned (OpenSpec.upto scanDeadSpec)

/-- 'waveportlaw08.ScanPatterns', WHERE WHAT IT READS IS OF BULK AT MOST 1048576: true; the input reads as it did. -/
def scanPatternsUptoRow : OpenClaim := { program := "ytfdaofhjkdabbaagreat", sum := "89ce004b3b877776b34dd586f59ce4ce57da46c03683021e35c9abca152582e2", func := "waveport/waveportlaw08.ScanPatterns", spec := "scanPatterns", inPlace := ["math.Float64bits", "math.Float64frombits", "math.Float32bits"], unfollowed := true, recurses := true, named := ["math/bits.overflowError"], apart := false, narrowed := true }
def ScanPatternsUptoSaid : Prop := scanPatternsUptoRow.holds Tryz.pinned (OpenSpec.upto scanPatternsSpec)

end Rows
end Go.Proofs.YtfdaofhjkdabbaaGreat
