/-
  No cell of these rows narrows 'for every input' (looked for: loops, veiled, ifaces, maps, wideKeys, modest, calm, conditions, laid).
  DERIVED. THE GIVEN ROWS OF THIS SEAT. 10 by the template 'for every input the law returns true; each argument reads behind the call as it read before'; 0 by the template 'total and deterministic' (their statements: YtjadnpidefnpoaaGreatTotals.lean).
  GIVEN WITH THE SEED: the statements are not yours to turn. If you find one false, say at which input.
  Laid BY PROGRAM, IN A SANDBOX (cutbox-rows.mjs): the forced cells as the released guide's own fill.sh prints them over the translation 02e4d154e0b029d2… (all of the seat's roots in one cut). By AI agents, Wed Nov 11 2026. No macro, syntax, notation, axiom, sorry.
-/
import Derived.Test.YtjadnpidefnpoaaGreatChecked
import GoSem.Claim
import GoSem.ClaimJoined
import GoSem.ClaimMapViews
import Derived.JoinedTies
import Derived.KernelRfl
namespace Go.Proofs.YtjadnpidefnpoaaGreat
/- THE CELL 'sum', in the pinned program and in every row, IS THE sha256 OF THE DUMP (.gsa) THAT YtjadnpidefnpoaaGreatProg.lean LOADS. Nothing in Lean hashes anything: it is a label: what it is worth is what the hold of that sum in a sandbox is worth. -/
noncomputable def Tryz.pinned : Pinned := { name := "ytjadnpidefnpoaagreat", sum := "02e4d154e0b029d28b7615e6f3d07da2eacadf436d8f35c11bdf476801628b9e", checked := Tryz.checked }
namespace Rows
def none {H : Type} : Left H := { results := [], args := [] }

/-- 'waveporttop.TopExactInside': WHATEVER THE INPUT: true; the input reads as it did. -/
def topExactInsideSpec : ChangeSpec := { name := "topExactInside", fn := fun _ => fun
  | [d1, d2, d3] => { results := [.lit (.bool true)], args := [d1, d2, d3] }
  | _ => none }
def topExactInsideRow : OpenClaim := { program := "ytjadnpidefnpoaagreat", sum := "02e4d154e0b029d28b7615e6f3d07da2eacadf436d8f35c11bdf476801628b9e", func := "waveport/waveporttop.TopExactInside", spec := "topExactInside", inPlace := ["math.Float64frombits", "math.Float64bits"], unfollowed := true, recurses := true, named := ["math/bits.overflowError"], apart := false }
def TopExactInsideSaid : Prop := topExactInsideRow.holds Tryz.pinned (OpenSpec.ofChange topExactInsideSpec)

/-- ITS FALSE NEIGHBOUR: 'it returns false'. Refute it at one input. -/
def topExactInsideWrong : ChangeSpec := { name := "topExactInside", fn := fun _ => fun
  | [d1, d2, d3] => { results := [.lit (.bool false)], args := [d1, d2, d3] }
  | _ => none }
def TopExactInsideWrongFalsely : Prop := topExactInsideRow.holds Tryz.pinned (OpenSpec.ofChange topExactInsideWrong)

/-- 'waveporttop.TopFly': WHATEVER THE INPUT: true; the input reads as it did. -/
def topFlySpec : ChangeSpec := { name := "topFly", fn := fun _ => fun
  | [d1, d2, d3] => { results := [.lit (.bool true)], args := [d1, d2, d3] }
  | _ => none }
def topFlyRow : OpenClaim := { program := "ytjadnpidefnpoaagreat", sum := "02e4d154e0b029d28b7615e6f3d07da2eacadf436d8f35c11bdf476801628b9e", func := "waveport/waveporttop.TopFly", spec := "topFly", inPlace := ["math.Float64frombits", "math.Float64bits"], unfollowed := true, recurses := true, named := ["math/bits.overflowError"], apart := false }
def TopFlySaid : Prop := topFlyRow.holds Tryz.pinned (OpenSpec.ofChange topFlySpec)

/-- ITS FALSE NEIGHBOUR: 'it returns false'. Refute it at one input. -/
def topFlyWrong : ChangeSpec := { name := "topFly", fn := fun _ => fun
  | [d1, d2, d3] => { results := [.lit (.bool false)], args := [d1, d2, d3] }
  | _ => none }
def TopFlyWrongFalsely : Prop := topFlyRow.holds Tryz.pinned (OpenSpec.ofChange topFlyWrong)

/-- 'waveportlaw07.TransformBoxLists': WHATEVER THE INPUT: true; the input reads as it did. -/
def transformBoxListsSpec : ChangeSpec := { name := "transformBoxLists", fn := fun _ => fun
  | [d1, d2, d3, d4, d5] => { results := [.lit (.bool true)], args := [d1, d2, d3, d4, d5] }
  | _ => none }
def transformBoxListsRow : OpenClaim := { program := "ytjadnpidefnpoaagreat", sum := "02e4d154e0b029d28b7615e6f3d07da2eacadf436d8f35c11bdf476801628b9e", func := "waveport/waveportlaw07.TransformBoxLists", spec := "transformBoxLists", inPlace := ["math.Float64frombits", "math.Float64bits"], unfollowed := true, recurses := true, named := ["math/bits.overflowError"], apart := false }
def TransformBoxListsSaid : Prop := transformBoxListsRow.holds Tryz.pinned (OpenSpec.ofChange transformBoxListsSpec)

/-- ITS FALSE NEIGHBOUR: 'it returns false'. Refute it at one input. -/
def transformBoxListsWrong : ChangeSpec := { name := "transformBoxLists", fn := fun _ => fun
  | [d1, d2, d3, d4, d5] => { results := [.lit (.bool false)], args := [d1, d2, d3, d4, d5] }
  | _ => none }
def TransformBoxListsWrongFalsely : Prop := transformBoxListsRow.holds Tryz.pinned (OpenSpec.ofChange transformBoxListsWrong)

/-- 'waveportlaw08.ScanFitBack': WHATEVER THE INPUT: true; the input reads as it did. -/
def scanFitBackSpec : ChangeSpec := { name := "scanFitBack", fn := fun _ => fun
  | [d1, d2, d3] => { results := [.lit (.bool true)], args := [d1, d2, d3] }
  | _ => none }
def scanFitBackRow : OpenClaim := { program := "ytjadnpidefnpoaagreat", sum := "02e4d154e0b029d28b7615e6f3d07da2eacadf436d8f35c11bdf476801628b9e", func := "waveport/waveportlaw08.ScanFitBack", spec := "scanFitBack", unfollowed := true, recurses := true, named := ["math/bits.overflowError"], apart := false }
def ScanFitBackSaid : Prop := scanFitBackRow.holds Tryz.pinned (OpenSpec.ofChange scanFitBackSpec)

/-- ITS FALSE NEIGHBOUR: 'it returns false'. Refute it at one input. -/
def scanFitBackWrong : ChangeSpec := { name := "scanFitBack", fn := fun _ => fun
  | [d1, d2, d3] => { results := [.lit (.bool false)], args := [d1, d2, d3] }
  | _ => none }
def ScanFitBackWrongFalsely : Prop := scanFitBackRow.holds Tryz.pinned (OpenSpec.ofChange scanFitBackWrong)

/-- 'waveportlaw02.BoxAngles': WHATEVER THE INPUT: true; the input reads as it did. -/
def boxAnglesSpec : ChangeSpec := { name := "boxAngles", fn := fun _ => fun
  | [d] => { results := [.lit (.bool true)], args := [d] }
  | _ => none }
def boxAnglesRow : OpenClaim := { program := "ytjadnpidefnpoaagreat", sum := "02e4d154e0b029d28b7615e6f3d07da2eacadf436d8f35c11bdf476801628b9e", func := "waveport/waveportlaw02.BoxAngles", spec := "boxAngles", inPlace := ["math.Float64bits", "math.Float64frombits"], unfollowed := true, recurses := true, named := ["math/bits.overflowError"], apart := false }
def BoxAnglesSaid : Prop := boxAnglesRow.holds Tryz.pinned (OpenSpec.ofChange boxAnglesSpec)

/-- ITS FALSE NEIGHBOUR: 'it returns false'. Refute it at one input. -/
def boxAnglesWrong : ChangeSpec := { name := "boxAngles", fn := fun _ => fun
  | [d] => { results := [.lit (.bool false)], args := [d] }
  | _ => none }
def BoxAnglesWrongFalsely : Prop := boxAnglesRow.holds Tryz.pinned (OpenSpec.ofChange boxAnglesWrong)

/-- 'waveportlaw08.ScanPatterns': WHATEVER THE INPUT: true; the input reads as it did. -/
def scanPatternsSpec : ChangeSpec := { name := "scanPatterns", fn := fun _ => fun
  | [d1, d2, d3, d4] => { results := [.lit (.bool true)], args := [d1, d2, d3, d4] }
  | _ => none }
def scanPatternsRow : OpenClaim := { program := "ytjadnpidefnpoaagreat", sum := "02e4d154e0b029d28b7615e6f3d07da2eacadf436d8f35c11bdf476801628b9e", func := "waveport/waveportlaw08.ScanPatterns", spec := "scanPatterns", inPlace := ["math.Float64bits", "math.Float64frombits", "math.Float32bits"], unfollowed := true, recurses := true, named := ["math/bits.overflowError"], apart := false }
def ScanPatternsSaid : Prop := scanPatternsRow.holds Tryz.pinned (OpenSpec.ofChange scanPatternsSpec)

/-- ITS FALSE NEIGHBOUR: 'it returns false'. Refute it at one input. -/
def scanPatternsWrong : ChangeSpec := { name := "scanPatterns", fn := fun _ => fun
  | [d1, d2, d3, d4] => { results := [.lit (.bool false)], args := [d1, d2, d3, d4] }
  | _ => none }
def ScanPatternsWrongFalsely : Prop := scanPatternsRow.holds Tryz.pinned (OpenSpec.ofChange scanPatternsWrong)

/-- 'waveportlaw08.ScanPeaks': WHATEVER THE INPUT: true; the input reads as it did. -/
def scanPeaksSpec : ChangeSpec := { name := "scanPeaks", fn := fun _ => fun
  | [d1, d2, d3] => { results := [.lit (.bool true)], args := [d1, d2, d3] }
  | _ => none }
def scanPeaksRow : OpenClaim := { program := "ytjadnpidefnpoaagreat", sum := "02e4d154e0b029d28b7615e6f3d07da2eacadf436d8f35c11bdf476801628b9e", func := "waveport/waveportlaw08.ScanPeaks", spec := "scanPeaks", inPlace := ["math.Float64bits", "math.Float64frombits"], unfollowed := true, recurses := true, named := ["math/bits.overflowError"], apart := false }
def ScanPeaksSaid : Prop := scanPeaksRow.holds Tryz.pinned (OpenSpec.ofChange scanPeaksSpec)

/-- ITS FALSE NEIGHBOUR: 'it returns false'. Refute it at one input. -/
def scanPeaksWrong : ChangeSpec := { name := "scanPeaks", fn := fun _ => fun
  | [d1, d2, d3] => { results := [.lit (.bool false)], args := [d1, d2, d3] }
  | _ => none }
def ScanPeaksWrongFalsely : Prop := scanPeaksRow.holds Tryz.pinned (OpenSpec.ofChange scanPeaksWrong)

/-- 'waveportlaw08.ScanCarries': WHATEVER THE INPUT: true; the input reads as it did. -/
def scanCarriesSpec : ChangeSpec := { name := "scanCarries", fn := fun _ => fun
  | [d1, d2, d3, d4, d5] => { results := [.lit (.bool true)], args := [d1, d2, d3, d4, d5] }
  | _ => none }
def scanCarriesRow : OpenClaim := { program := "ytjadnpidefnpoaagreat", sum := "02e4d154e0b029d28b7615e6f3d07da2eacadf436d8f35c11bdf476801628b9e", func := "waveport/waveportlaw08.ScanCarries", spec := "scanCarries", unfollowed := true, recurses := true, named := ["math/bits.overflowError"], apart := false }
def ScanCarriesSaid : Prop := scanCarriesRow.holds Tryz.pinned (OpenSpec.ofChange scanCarriesSpec)

/-- ITS FALSE NEIGHBOUR: 'it returns false'. Refute it at one input. -/
def scanCarriesWrong : ChangeSpec := { name := "scanCarries", fn := fun _ => fun
  | [d1, d2, d3, d4, d5] => { results := [.lit (.bool false)], args := [d1, d2, d3, d4, d5] }
  | _ => none }
def ScanCarriesWrongFalsely : Prop := scanCarriesRow.holds Tryz.pinned (OpenSpec.ofChange scanCarriesWrong)

/-- 'waveportlaw08.ScanFills': WHATEVER THE INPUT: true; the input reads as it did. -/
def scanFillsSpec : ChangeSpec := { name := "scanFills", fn := fun _ => fun
  | [d1, d2, d3] => { results := [.lit (.bool true)], args := [d1, d2, d3] }
  | _ => none }
def scanFillsRow : OpenClaim := { program := "ytjadnpidefnpoaagreat", sum := "02e4d154e0b029d28b7615e6f3d07da2eacadf436d8f35c11bdf476801628b9e", func := "waveport/waveportlaw08.ScanFills", spec := "scanFills", unfollowed := true, recurses := true, named := ["math/bits.overflowError"], apart := false }
def ScanFillsSaid : Prop := scanFillsRow.holds Tryz.pinned (OpenSpec.ofChange scanFillsSpec)

/-- ITS FALSE NEIGHBOUR: 'it returns false'. Refute it at one input. -/
def scanFillsWrong : ChangeSpec := { name := "scanFills", fn := fun _ => fun
  | [d1, d2, d3] => { results := [.lit (.bool false)], args := [d1, d2, d3] }
  | _ => none }
def ScanFillsWrongFalsely : Prop := scanFillsRow.holds Tryz.pinned (OpenSpec.ofChange scanFillsWrong)

/-- 'waveportlaw08.ScanFillsBack': WHATEVER THE INPUT: true; the input reads as it did. -/
def scanFillsBackSpec : ChangeSpec := { name := "scanFillsBack", fn := fun _ => fun
  | [d1, d2, d3, d4, d5] => { results := [.lit (.bool true)], args := [d1, d2, d3, d4, d5] }
  | _ => none }
def scanFillsBackRow : OpenClaim := { program := "ytjadnpidefnpoaagreat", sum := "02e4d154e0b029d28b7615e6f3d07da2eacadf436d8f35c11bdf476801628b9e", func := "waveport/waveportlaw08.ScanFillsBack", spec := "scanFillsBack", unfollowed := true, recurses := true, named := ["math/bits.overflowError"], apart := false }
def ScanFillsBackSaid : Prop := scanFillsBackRow.holds Tryz.pinned (OpenSpec.ofChange scanFillsBackSpec)

/-- ITS FALSE NEIGHBOUR: 'it returns false'. Refute it at one input. -/
def scanFillsBackWrong : ChangeSpec := { name := "scanFillsBack", fn := fun _ => fun
  | [d1, d2, d3, d4, d5] => { results := [.lit (.bool false)], args := [d1, d2, d3, d4, d5] }
  | _ => none }
def ScanFillsBackWrongFalsely : Prop := scanFillsBackRow.holds Tryz.pinned (OpenSpec.ofChange scanFillsBackWrong)

/- THE SECOND FORM. 'bulk': how many values and letters a reading holds, each counted each time it is reached (what is shared counts as often as it is met; a slice's spare places count too). A statement '..UptoSaid' is the law's where the arguments, and the package variables that the reading takes, are together of bulk at most 1048576: NARROWER than '..Said'. Prove '..Said' where nothing that the law and all that it calls make is longer than what came in: it says more and counts as full. Else prove '..UptoSaid'. A law counts once. -/
mutual
def uptoBulk {H : Type} : DataW H → Nat
  | .lit (.string bytes) => bytes.length + 1
  | .lit _ => 1
  | .nil => 1
  | .ptr d => uptoBulk d + 1
  | .slice elems spare => uptoBulkAll elems + uptoBulkAll spare + 1
  | .agg parts => uptoBulkAll parts + 1
  | .iface _ d => uptoBulk d + 1
  | .map entries => uptoBulkEntries entries + 1
  | .held _ => 1
def uptoBulkAll {H : Type} : List (DataW H) → Nat
  | [] => 0
  | d :: r => uptoBulk d + uptoBulkAll r
def uptoBulkEntries {H : Type} : List (Lit × DataW H) → Nat
  | [] => 0
  | x :: r => uptoBulkEntry x + uptoBulkEntries r
def uptoBulkEntry {H : Type} : Lit × DataW H → Nat
  | (.string bytes, d) => bytes.length + uptoBulk d + 1
  | (_, d) => uptoBulk d + 1
 end
def uptoSmall : (H : Type) → List (DataW H) → Bool := fun _ ds => decide (uptoBulkAll ds ≤ 1048576)
def OpenSpec.upto (s : _root_.Go.ChangeSpec) : _root_.Go.OpenSpec := { _root_.Go.OpenSpec.ofChange s with cond := some uptoSmall }

/-- 'waveporttop.TopExactInside', WHERE WHAT IT READS IS OF BULK AT MOST 1048576: true; the input reads as it did. -/
def topExactInsideUptoRow : OpenClaim := { program := "ytjadnpidefnpoaagreat", sum := "02e4d154e0b029d28b7615e6f3d07da2eacadf436d8f35c11bdf476801628b9e", func := "waveport/waveporttop.TopExactInside", spec := "topExactInside", inPlace := ["math.Float64frombits", "math.Float64bits"], unfollowed := true, recurses := true, named := ["math/bits.overflowError"], apart := false, narrowed := true }
def TopExactInsideUptoSaid : Prop := topExactInsideUptoRow.holds Tryz.pinned (OpenSpec.upto topExactInsideSpec)

/-- 'waveporttop.TopFly', WHERE WHAT IT READS IS OF BULK AT MOST 1048576: true; the input reads as it did. -/
def topFlyUptoRow : OpenClaim := { program := "ytjadnpidefnpoaagreat", sum := "02e4d154e0b029d28b7615e6f3d07da2eacadf436d8f35c11bdf476801628b9e", func := "waveport/waveporttop.TopFly", spec := "topFly", inPlace := ["math.Float64frombits", "math.Float64bits"], unfollowed := true, recurses := true, named := ["math/bits.overflowError"], apart := false, narrowed := true }
def TopFlyUptoSaid : Prop := topFlyUptoRow.holds Tryz.pinned (OpenSpec.upto topFlySpec)

/-- 'waveportlaw07.TransformBoxLists', WHERE WHAT IT READS IS OF BULK AT MOST 1048576: true; the input reads as it did. -/
def transformBoxListsUptoRow : OpenClaim := { program := "ytjadnpidefnpoaagreat", sum := "02e4d154e0b029d28b7615e6f3d07da2eacadf436d8f35c11bdf476801628b9e", func := "waveport/waveportlaw07.TransformBoxLists", spec := "transformBoxLists", inPlace := ["math.Float64frombits", "math.Float64bits"], unfollowed := true, recurses := true, named := ["math/bits.overflowError"], apart := false, narrowed := true }
def TransformBoxListsUptoSaid : Prop := transformBoxListsUptoRow.holds Tryz.pinned (OpenSpec.upto transformBoxListsSpec)

/-- 'waveportlaw08.ScanFitBack', WHERE WHAT IT READS IS OF BULK AT MOST 1048576: true; the input reads as it did. -/
def scanFitBackUptoRow : OpenClaim := { program := "ytjadnpidefnpoaagreat", sum := "02e4d154e0b029d28b7615e6f3d07da2eacadf436d8f35c11bdf476801628b9e", func := "waveport/waveportlaw08.ScanFitBack", spec := "scanFitBack", unfollowed := true, recurses := true, named := ["math/bits.overflowError"], apart := false, narrowed := true }
def ScanFitBackUptoSaid : Prop := scanFitBackUptoRow.holds Tryz.pinned (OpenSpec.upto scanFitBackSpec)

/-- 'waveportlaw02.BoxAngles', WHERE WHAT IT READS IS OF BULK AT MOST 1048576: true; the input reads as it did. -/
def boxAnglesUptoRow : OpenClaim := { program := "ytjadnpidefnpoaagreat", sum := "02e4d154e0b029d28b7615e6f3d07da2eacadf436d8f35c11bdf476801628b9e", func := "waveport/waveportlaw02.BoxAngles", spec := "boxAngles", inPlace := ["math.Float64bits", "math.Float64frombits"], unfollowed := true, recurses := true, named := ["math/bits.overflowError"], apart := false, narrowed := true }
def BoxAnglesUptoSaid : Prop := boxAnglesUptoRow.holds Tryz.pinned (OpenSpec.upto boxAnglesSpec)

/-- 'waveportlaw08.ScanPatterns', WHERE WHAT IT READS IS OF BULK AT MOST 1048576: true; the input reads as it did. -/
def scanPatternsUptoRow : OpenClaim := { program := "ytjadnpidefnpoaagreat", sum := "02e4d154e0b029d28b7615e6f3d07da2eacadf436d8f35c11bdf476801628b9e", func := "waveport/waveportlaw08.ScanPatterns", spec := "scanPatterns", inPlace := ["math.Float64bits", "math.Float64frombits", "math.Float32bits"], unfollowed := true, recurses := true, named := ["math/bits.overflowError"], apart := false, narrowed := true }
def ScanPatternsUptoSaid : Prop := scanPatternsUptoRow.holds Tryz.pinned (OpenSpec.upto scanPatternsSpec)

/-- 'waveportlaw08.ScanPeaks', WHERE WHAT IT READS IS OF BULK AT MOST 1048576: true; the input reads as it did. -/
def scanPeaksUptoRow : OpenClaim := { program := "ytjadnpidefnpoaagreat", sum := "02e4d154e0b029d28b7615e6f3d07da2eacadf436d8f35c11bdf476801628b9e", func := "waveport/waveportlaw08.ScanPeaks", spec := "scanPeaks", inPlace := ["math.Float64bits", "math.Float64frombits"], unfollowed := true, recurses := true, named := ["math/bits.overflowError"], apart := false, narrowed := true }
def ScanPeaksUptoSaid : Prop := scanPeaksUptoRow.holds Tryz.pinned (OpenSpec.upto scanPeaksSpec)

/-- 'waveportlaw08.ScanCarries', WHERE WHAT IT READS IS OF BULK AT MOST 1048576: true; the input reads as it did. -/
def scanCarriesUptoRow : OpenClaim := { program := "ytjadnpidefnpoaagreat", sum := "02e4d154e0b029d28b7615e6f3d07da2eacadf436d8f35c11bdf476801628b9e", func := "waveport/waveportlaw08.ScanCarries", spec := "scanCarries", unfollowed := true, recurses := true, named := ["math/bits.overflowError"], apart := false, narrowed := true }
def ScanCarriesUptoSaid : Prop := scanCarriesUptoRow.holds Tryz.pinned (OpenSpec.upto scanCarriesSpec)

/-- 'waveportlaw08.ScanFills', WHERE WHAT IT READS IS OF BULK AT MOST 1048576: true; the input reads as it did. -/
def scanFillsUptoRow : OpenClaim := { program := "ytjadnpidefnpoaagreat", sum := "02e4d154e0b029d28b7615e6f3d07da2eacadf436d8f35c11bdf476801628b9e", func := "waveport/waveportlaw08.ScanFills", spec := "scanFills", unfollowed := true, recurses := true, named := ["math/bits.overflowError"], apart := false, narrowed := true }
def ScanFillsUptoSaid : Prop := scanFillsUptoRow.holds Tryz.pinned (OpenSpec.upto scanFillsSpec)

/-- 'waveportlaw08.ScanFillsBack', WHERE WHAT IT READS IS OF BULK AT MOST 1048576: true; the input reads as it did. -/
def scanFillsBackUptoRow : OpenClaim := { program := "ytjadnpidefnpoaagreat", sum := "02e4d154e0b029d28b7615e6f3d07da2eacadf436d8f35c11bdf476801628b9e", func := "waveport/waveportlaw08.ScanFillsBack", spec := "scanFillsBack", unfollowed := true, recurses := true, named := ["math/bits.overflowError"], apart := false, narrowed := true }
def ScanFillsBackUptoSaid : Prop := scanFillsBackUptoRow.holds Tryz.pinned (OpenSpec.upto scanFillsBackSpec)

end Rows
end Go.Proofs.YtjadnpidefnpoaaGreat
