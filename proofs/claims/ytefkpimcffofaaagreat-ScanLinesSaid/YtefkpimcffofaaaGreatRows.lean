/-
  No cell of these rows narrows 'for every input' (looked for: loops, veiled, ifaces, maps, wideKeys, modest, calm, conditions, laid).
  DERIVED. THE GIVEN ROWS OF THIS SEAT. 9 by the template 'for every input the law returns true; each argument reads behind the call as it read before'; 0 by the template 'total and deterministic' (their statements: YtefkpimcffofaaaGreatTotals.lean).
  GIVEN WITH THE SEED: the statements are not yours to turn. If you find one false, say at which input.
  Laid BY PROGRAM, IN A SANDBOX (cutbox-rows.mjs): the forced cells as the released guide's own fill.sh prints them over the translation 9c86232a3b5b62e1… (all of the seat's roots in one cut). By AI agents, Wed Nov 11 2026. No macro, syntax, notation, axiom, sorry.
-/
import Derived.Test.YtefkpimcffofaaaGreatChecked
import GoSem.Claim
import GoSem.ClaimJoined
import GoSem.ClaimMapViews
import Derived.JoinedTies
import Derived.KernelRfl
namespace Go.Proofs.YtefkpimcffofaaaGreat
/- THE CELL 'sum', in the pinned program and in every row, IS THE sha256 OF THE DUMP (.gsa) THAT YtefkpimcffofaaaGreatProg.lean LOADS. Nothing in Lean hashes anything: it is a label: what it is worth is what the hold of that sum in a sandbox is worth. -/
noncomputable def Tryz.pinned : Pinned := { name := "ytefkpimcffofaaagreat", sum := "9c86232a3b5b62e13f2ebe4588d3a154acec3b35729b6260ba026ba9191604b2", checked := Tryz.checked }
namespace Rows
def none {H : Type} : Left H := { results := [], args := [] }

/-- 'waveportlaw02.BoxSolves': WHATEVER THE INPUT: true; the input reads as it did. -/
def boxSolvesSpec : ChangeSpec := { name := "boxSolves", fn := fun _ => fun
  | [d1, d2, d3] => { results := [.lit (.bool true)], args := [d1, d2, d3] }
  | _ => none }
def boxSolvesRow : OpenClaim := { program := "ytefkpimcffofaaagreat", sum := "9c86232a3b5b62e13f2ebe4588d3a154acec3b35729b6260ba026ba9191604b2", func := "waveport/waveportlaw02.BoxSolves", spec := "boxSolves", inPlace := ["math.Float64bits", "math.Float64frombits"], unfollowed := true, recurses := true, named := ["math/bits.overflowError"], apart := false }
def BoxSolvesSaid : Prop := boxSolvesRow.holds Tryz.pinned (OpenSpec.ofChange boxSolvesSpec)

/-- ITS FALSE NEIGHBOUR: 'it returns false'. Refute it at one input. -/
def boxSolvesWrong : ChangeSpec := { name := "boxSolves", fn := fun _ => fun
  | [d1, d2, d3] => { results := [.lit (.bool false)], args := [d1, d2, d3] }
  | _ => none }
def BoxSolvesWrongFalsely : Prop := boxSolvesRow.holds Tryz.pinned (OpenSpec.ofChange boxSolvesWrong)

/-- 'waveportlaw07.TransformGrids': WHATEVER THE INPUT: true; the input reads as it did. -/
def transformGridsSpec : ChangeSpec := { name := "transformGrids", fn := fun _ => fun
  | [d1, d2, d3, d4, d5] => { results := [.lit (.bool true)], args := [d1, d2, d3, d4, d5] }
  | _ => none }
def transformGridsRow : OpenClaim := { program := "ytefkpimcffofaaagreat", sum := "9c86232a3b5b62e13f2ebe4588d3a154acec3b35729b6260ba026ba9191604b2", func := "waveport/waveportlaw07.TransformGrids", spec := "transformGrids", unfollowed := true, recurses := true, named := ["math/bits.overflowError"], apart := false }
def TransformGridsSaid : Prop := transformGridsRow.holds Tryz.pinned (OpenSpec.ofChange transformGridsSpec)

/-- ITS FALSE NEIGHBOUR: 'it returns false'. Refute it at one input. -/
def transformGridsWrong : ChangeSpec := { name := "transformGrids", fn := fun _ => fun
  | [d1, d2, d3, d4, d5] => { results := [.lit (.bool false)], args := [d1, d2, d3, d4, d5] }
  | _ => none }
def TransformGridsWrongFalsely : Prop := transformGridsRow.holds Tryz.pinned (OpenSpec.ofChange transformGridsWrong)

/-- 'waveportlaw07.TransformBoxLists': WHATEVER THE INPUT: true; the input reads as it did. -/
def transformBoxListsSpec : ChangeSpec := { name := "transformBoxLists", fn := fun _ => fun
  | [d1, d2, d3, d4, d5] => { results := [.lit (.bool true)], args := [d1, d2, d3, d4, d5] }
  | _ => none }
def transformBoxListsRow : OpenClaim := { program := "ytefkpimcffofaaagreat", sum := "9c86232a3b5b62e13f2ebe4588d3a154acec3b35729b6260ba026ba9191604b2", func := "waveport/waveportlaw07.TransformBoxLists", spec := "transformBoxLists", inPlace := ["math.Float64frombits", "math.Float64bits"], unfollowed := true, recurses := true, named := ["math/bits.overflowError"], apart := false }
def TransformBoxListsSaid : Prop := transformBoxListsRow.holds Tryz.pinned (OpenSpec.ofChange transformBoxListsSpec)

/-- ITS FALSE NEIGHBOUR: 'it returns false'. Refute it at one input. -/
def transformBoxListsWrong : ChangeSpec := { name := "transformBoxLists", fn := fun _ => fun
  | [d1, d2, d3, d4, d5] => { results := [.lit (.bool false)], args := [d1, d2, d3, d4, d5] }
  | _ => none }
def TransformBoxListsWrongFalsely : Prop := transformBoxListsRow.holds Tryz.pinned (OpenSpec.ofChange transformBoxListsWrong)

/-- 'waveportlaw08.ScanTicks': WHATEVER THE INPUT: true; the input reads as it did. -/
def scanTicksSpec : ChangeSpec := { name := "scanTicks", fn := fun _ => fun
  | [d1, d2, d3] => { results := [.lit (.bool true)], args := [d1, d2, d3] }
  | _ => none }
def scanTicksRow : OpenClaim := { program := "ytefkpimcffofaaagreat", sum := "9c86232a3b5b62e13f2ebe4588d3a154acec3b35729b6260ba026ba9191604b2", func := "waveport/waveportlaw08.ScanTicks", spec := "scanTicks", unfollowed := true, recurses := true, named := ["math/bits.overflowError"], apart := false }
def ScanTicksSaid : Prop := scanTicksRow.holds Tryz.pinned (OpenSpec.ofChange scanTicksSpec)

/-- ITS FALSE NEIGHBOUR: 'it returns false'. Refute it at one input. -/
def scanTicksWrong : ChangeSpec := { name := "scanTicks", fn := fun _ => fun
  | [d1, d2, d3] => { results := [.lit (.bool false)], args := [d1, d2, d3] }
  | _ => none }
def ScanTicksWrongFalsely : Prop := scanTicksRow.holds Tryz.pinned (OpenSpec.ofChange scanTicksWrong)

/-- 'waveportlaw08.ScanFits': WHATEVER THE INPUT: true; the input reads as it did. -/
def scanFitsSpec : ChangeSpec := { name := "scanFits", fn := fun _ => fun
  | [d1, d2] => { results := [.lit (.bool true)], args := [d1, d2] }
  | _ => none }
def scanFitsRow : OpenClaim := { program := "ytefkpimcffofaaagreat", sum := "9c86232a3b5b62e13f2ebe4588d3a154acec3b35729b6260ba026ba9191604b2", func := "waveport/waveportlaw08.ScanFits", spec := "scanFits", unfollowed := true, recurses := true, named := ["math/bits.overflowError"], apart := false }
def ScanFitsSaid : Prop := scanFitsRow.holds Tryz.pinned (OpenSpec.ofChange scanFitsSpec)

/-- ITS FALSE NEIGHBOUR: 'it returns false'. Refute it at one input. -/
def scanFitsWrong : ChangeSpec := { name := "scanFits", fn := fun _ => fun
  | [d1, d2] => { results := [.lit (.bool false)], args := [d1, d2] }
  | _ => none }
def ScanFitsWrongFalsely : Prop := scanFitsRow.holds Tryz.pinned (OpenSpec.ofChange scanFitsWrong)

/-- 'waveportlaw08.ScanFitBack': WHATEVER THE INPUT: true; the input reads as it did. -/
def scanFitBackSpec : ChangeSpec := { name := "scanFitBack", fn := fun _ => fun
  | [d1, d2, d3] => { results := [.lit (.bool true)], args := [d1, d2, d3] }
  | _ => none }
def scanFitBackRow : OpenClaim := { program := "ytefkpimcffofaaagreat", sum := "9c86232a3b5b62e13f2ebe4588d3a154acec3b35729b6260ba026ba9191604b2", func := "waveport/waveportlaw08.ScanFitBack", spec := "scanFitBack", unfollowed := true, recurses := true, named := ["math/bits.overflowError"], apart := false }
def ScanFitBackSaid : Prop := scanFitBackRow.holds Tryz.pinned (OpenSpec.ofChange scanFitBackSpec)

/-- ITS FALSE NEIGHBOUR: 'it returns false'. Refute it at one input. -/
def scanFitBackWrong : ChangeSpec := { name := "scanFitBack", fn := fun _ => fun
  | [d1, d2, d3] => { results := [.lit (.bool false)], args := [d1, d2, d3] }
  | _ => none }
def ScanFitBackWrongFalsely : Prop := scanFitBackRow.holds Tryz.pinned (OpenSpec.ofChange scanFitBackWrong)

/-- 'waveportlaw08.ScanFrames': WHATEVER THE INPUT: true; the input reads as it did. -/
def scanFramesSpec : ChangeSpec := { name := "scanFrames", fn := fun _ => fun
  | [d1, d2, d3, d4] => { results := [.lit (.bool true)], args := [d1, d2, d3, d4] }
  | _ => none }
def scanFramesRow : OpenClaim := { program := "ytefkpimcffofaaagreat", sum := "9c86232a3b5b62e13f2ebe4588d3a154acec3b35729b6260ba026ba9191604b2", func := "waveport/waveportlaw08.ScanFrames", spec := "scanFrames", unfollowed := true, recurses := true, named := ["math/bits.overflowError"], apart := false }
def ScanFramesSaid : Prop := scanFramesRow.holds Tryz.pinned (OpenSpec.ofChange scanFramesSpec)

/-- ITS FALSE NEIGHBOUR: 'it returns false'. Refute it at one input. -/
def scanFramesWrong : ChangeSpec := { name := "scanFrames", fn := fun _ => fun
  | [d1, d2, d3, d4] => { results := [.lit (.bool false)], args := [d1, d2, d3, d4] }
  | _ => none }
def ScanFramesWrongFalsely : Prop := scanFramesRow.holds Tryz.pinned (OpenSpec.ofChange scanFramesWrong)

/-- 'waveportlaw08.ScanPositions': WHATEVER THE INPUT: true; the input reads as it did. -/
def scanPositionsSpec : ChangeSpec := { name := "scanPositions", fn := fun _ => fun
  | [d1, d2, d3, d4] => { results := [.lit (.bool true)], args := [d1, d2, d3, d4] }
  | _ => none }
def scanPositionsRow : OpenClaim := { program := "ytefkpimcffofaaagreat", sum := "9c86232a3b5b62e13f2ebe4588d3a154acec3b35729b6260ba026ba9191604b2", func := "waveport/waveportlaw08.ScanPositions", spec := "scanPositions", unfollowed := true, recurses := true, named := ["math/bits.overflowError"], apart := false }
def ScanPositionsSaid : Prop := scanPositionsRow.holds Tryz.pinned (OpenSpec.ofChange scanPositionsSpec)

/-- ITS FALSE NEIGHBOUR: 'it returns false'. Refute it at one input. -/
def scanPositionsWrong : ChangeSpec := { name := "scanPositions", fn := fun _ => fun
  | [d1, d2, d3, d4] => { results := [.lit (.bool false)], args := [d1, d2, d3, d4] }
  | _ => none }
def ScanPositionsWrongFalsely : Prop := scanPositionsRow.holds Tryz.pinned (OpenSpec.ofChange scanPositionsWrong)

/-- 'waveportlaw08.ScanLines': WHATEVER THE INPUT: true; the input reads as it did. -/
def scanLinesSpec : ChangeSpec := { name := "scanLines", fn := fun _ => fun
  | [d1, d2, d3, d4, d5] => { results := [.lit (.bool true)], args := [d1, d2, d3, d4, d5] }
  | _ => none }
def scanLinesRow : OpenClaim := { program := "ytefkpimcffofaaagreat", sum := "9c86232a3b5b62e13f2ebe4588d3a154acec3b35729b6260ba026ba9191604b2", func := "waveport/waveportlaw08.ScanLines", spec := "scanLines", unfollowed := true, recurses := true, named := ["math/bits.overflowError"], apart := false }
def ScanLinesSaid : Prop := scanLinesRow.holds Tryz.pinned (OpenSpec.ofChange scanLinesSpec)

/-- ITS FALSE NEIGHBOUR: 'it returns false'. Refute it at one input. -/
def scanLinesWrong : ChangeSpec := { name := "scanLines", fn := fun _ => fun
  | [d1, d2, d3, d4, d5] => { results := [.lit (.bool false)], args := [d1, d2, d3, d4, d5] }
  | _ => none }
def ScanLinesWrongFalsely : Prop := scanLinesRow.holds Tryz.pinned (OpenSpec.ofChange scanLinesWrong)

/- THE SECOND FORM. 'bulk': how many values and letters a reading holds, each counted each time it is reached (what is shared counts as often as it is met; a slice's spare places count too). A statement '..UptoSaid' is the law's where the arguments, and the package variables that the reading takes, are together of bulk at most 1048576: NARROWER than '..Said'. Prove '..Said' where nothing that the law and all that it calls make is longer than what came in: it says more and counts as full. Else prove '..UptoSaid'. A law counts once. -/
mutual
def uptoBulk {H : Type} : DataW H → Nat
  | .lit (.string bytes) => bytes.length + 1
  | .lit _ => 1
  | .nil => 1
  | .ptr d => uptoBulk d + 1
  | .slice elems spare => uptoBulkAll elems + uptoBulkAll spare + 1
  | .agg parts => uptoBulkAll parts + 1
  | .iface _ d => uptoBulk d + 1
  | .map entries => uptoBulkEntries entries + 1
  | .held _ => 1
def uptoBulkAll {H : Type} : List (DataW H) → Nat
  | [] => 0
  | d :: r => uptoBulk d + uptoBulkAll r
def uptoBulkEntries {H : Type} : List (Lit × DataW H) → Nat
  | [] => 0
  | x :: r => uptoBulkEntry x + uptoBulkEntries r
def uptoBulkEntry {H : Type} : Lit × DataW H → Nat
  | (.string bytes, d) => bytes.length + uptoBulk d + 1
  | (_, d) => uptoBulk d + 1
 end
def uptoSmall : (H : Type) → List (DataW H) → Bool := fun _ ds => decide (uptoBulkAll ds ≤ 1048576)
def OpenSpec.upto (s : _root_.Go.ChangeSpec) : _root_.Go.OpenSpec := { _root_.Go.OpenSpec.ofChange s with cond := some uptoSmall }

/-- 'waveportlaw02.BoxSolves', WHERE WHAT IT READS IS OF BULK AT MOST 1048576: true; the input reads as it did. -/
def boxSolvesUptoRow : OpenClaim := { program := "ytefkpimcffofaaagreat", sum := "9c86232a3b5b62e13f2ebe4588d3a154acec3b35729b6260ba026ba9191604b2", func := "waveport/waveportlaw02.BoxSolves", spec := "boxSolves", inPlace := ["math.Float64bits", "math.Float64frombits"], unfollowed := true, recurses := true, named := ["math/bits.overflowError"], apart := false, narrowed := true }
def BoxSolvesUptoSaid : Prop := boxSolvesUptoRow.holds Tryz.pinned (OpenSpec.upto boxSolvesSpec)

/-- 'waveportlaw07.TransformGrids', WHERE WHAT IT READS IS OF BULK AT MOST 1048576: true; the input reads as it did. -/
def transformGridsUptoRow : OpenClaim := { program := "ytefkpimcffofaaagreat", sum := "9c86232a3b5b62e13f2ebe4588d3a154acec3b35729b6260ba026ba9191604b2", func := "waveport/waveportlaw07.TransformGrids", spec := "transformGrids", unfollowed := true, recurses := true, named := ["math/bits.overflowError"], apart := false, narrowed := true }
def TransformGridsUptoSaid : Prop := transformGridsUptoRow.holds Tryz.pinned (OpenSpec.upto transformGridsSpec)

/-- 'waveportlaw07.TransformBoxLists', WHERE WHAT IT READS IS OF BULK AT MOST 1048576: true; the input reads as it did. -/
def transformBoxListsUptoRow : OpenClaim := { program := "ytefkpimcffofaaagreat", sum := "9c86232a3b5b62e13f2ebe4588d3a154acec3b35729b6260ba026ba9191604b2", func := "waveport/waveportlaw07.TransformBoxLists", spec := "transformBoxLists", inPlace := ["math.Float64frombits", "math.Float64bits"], unfollowed := true, recurses := true, named := ["math/bits.overflowError"], apart := false, narrowed := true }
def TransformBoxListsUptoSaid : Prop := transformBoxListsUptoRow.holds Tryz.pinned (OpenSpec.upto transformBoxListsSpec)

/-- 'waveportlaw08.ScanTicks', WHERE WHAT IT READS IS OF BULK AT MOST 1048576: true; the input reads as it did. -/
def scanTicksUptoRow : OpenClaim := { program := "ytefkpimcffofaaagreat", sum := "9c86232a3b5b62e13f2ebe4588d3a154acec3b35729b6260ba026ba9191604b2", func := "waveport/waveportlaw08.ScanTicks", spec := "scanTicks", unfollowed := true, recurses := true, named := ["math/bits.overflowError"], apart := false, narrowed := true }
def ScanTicksUptoSaid : Prop := scanTicksUptoRow.holds Tryz.pinned (OpenSpec.upto scanTicksSpec)

/-- 'waveportlaw08.ScanFits', WHERE WHAT IT READS IS OF BULK AT MOST 1048576: true; the input reads as it did. -/
def scanFitsUptoRow : OpenClaim := { program := "ytefkpimcffofaaagreat", sum := "9c86232a3b5b62e13f2ebe4588d3a154acec3b35729b6260ba026ba9191604b2", func := "waveport/waveportlaw08.ScanFits", spec := "scanFits", unfollowed := true, recurses := true, named := ["math/bits.overflowError"], apart := false, narrowed := true }
def ScanFitsUptoSaid : Prop := scanFitsUptoRow.holds Tryz.pinned (OpenSpec.upto scanFitsSpec)

/-- 'waveportlaw08.ScanFitBack', WHERE WHAT IT READS IS OF BULK AT MOST 1048576: true; the input reads as it did. -/
def scanFitBackUptoRow : OpenClaim := { program := "ytefkpimcffofaaagreat", sum := "9c86232a3b5b62e13f2ebe4588d3a154acec3b35729b6260ba026ba9191604b2", func := "waveport/waveportlaw08.ScanFitBack", spec := "scanFitBack", unfollowed := true, recurses := true, named := ["math/bits.overflowError"], apart := false, narrowed := true }
def ScanFitBackUptoSaid : Prop := scanFitBackUptoRow.holds Tryz.pinned (OpenSpec.upto scanFitBackSpec)

/-- 'waveportlaw08.ScanFrames', WHERE WHAT IT READS IS OF BULK AT MOST 1048576: true; the input reads as it did. -/
def scanFramesUptoRow : OpenClaim := { program := "ytefkpimcffofaaagreat", sum := "9c86232a3b5b62e13f2ebe4588d3a154acec3b35729b6260ba026ba9191604b2", func := "waveport/waveportlaw08.ScanFrames", spec := "scanFrames", unfollowed := true, recurses := true, named := ["math/bits.overflowError"], apart := false, narrowed := true }
def ScanFramesUptoSaid : Prop := scanFramesUptoRow.holds Tryz.pinned (OpenSpec.upto scanFramesSpec)

/-- 'waveportlaw08.ScanPositions', WHERE WHAT IT READS IS OF BULK AT MOST 1048576: true; the input reads as it did. -/
def scanPositionsUptoRow : OpenClaim := { program := "ytefkpimcffofaaagreat", sum := "9c86232a3b5b62e13f2ebe4588d3a154acec3b35729b6260ba026ba9191604b2", func := "waveport/waveportlaw08.ScanPositions", spec := "scanPositions", unfollowed := true, recurses := true, named := ["math/bits.overflowError"], apart := false, narrowed := true }
def ScanPositionsUptoSaid : Prop := scanPositionsUptoRow.holds Tryz.pinned (OpenSpec.upto scanPositionsSpec)

/-- 'waveportlaw08.ScanLines', WHERE WHAT IT READS IS OF BULK AT MOST 1048576: true; the input reads as it did. -/
def scanLinesUptoRow : OpenClaim := { program := "ytefkpimcffofaaagreat", sum := "9c86232a3b5b62e13f2ebe4588d3a154acec3b35729b6260ba026ba9191604b2", func := "waveport/waveportlaw08.ScanLines", spec := "scanLines", unfollowed := true, recurses := true, named := ["math/bits.overflowError"], apart := false, narrowed := true }
def ScanLinesUptoSaid : Prop := scanLinesUptoRow.holds Tryz.pinned (OpenSpec.upto scanLinesSpec)

end Rows
end Go.Proofs.YtefkpimcffofaaaGreat
