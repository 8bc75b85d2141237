/-
  No cell of these rows narrows 'for every input' (looked for: loops, veiled, ifaces, maps, wideKeys, modest, calm, conditions, laid).
  DERIVED. THE GIVEN ROWS OF THIS SEAT. 8 by the template 'for every input the law returns true; each argument reads behind the call as it read before'; 0 by the template 'total and deterministic' (their statements: YtnbjnokgmeamdaaTotals.lean).
  GIVEN WITH THE SEED: the statements are not yours to turn. If you find one false, say at which input.
  Laid BY PROGRAM, IN A SANDBOX (cutbox-rows.mjs): the forced cells as the released guide's own fill.sh prints them over the translation 3cac5e97e12610d0… (all of the seat's roots in one cut). By AI agents, Wed Nov 11 2026. No macro, syntax, notation, axiom, sorry.
-/
import Derived.Test.YtnbjnokgmeamdaaChecked
import GoSem.Claim
import GoSem.ClaimJoined
import GoSem.ClaimMapViews
import Derived.JoinedTies
import Derived.KernelRfl
namespace Go.Proofs.Ytnbjnokgmeamdaa
/- THE CELL 'sum', in the pinned program and in every row, IS THE sha256 OF THE DUMP (.gsa) THAT YtnbjnokgmeamdaaProg.lean LOADS. Nothing in Lean hashes anything: it is a label: what it is worth is what the hold of that sum in a sandbox is worth. -/
noncomputable def Try.pinned : Pinned := { name := "ytnbjnokgmeamdaa", sum := "3cac5e97e12610d013a8d738b1310c07d186ca330447363fd687ad2f657a77dc", checked := Try.checked }
namespace Rows
def none {H : Type} : Left H := { results := [], args := [] }

/-- 'waveportlaw07.TransformWindows': WHATEVER THE INPUT: true; the input reads as it did. -/
def transformWindowsSpec : ChangeSpec := { name := "transformWindows", fn := fun _ => fun
  | [d1, d2] => { results := [.lit (.bool true)], args := [d1, d2] }
  | _ => none }
def transformWindowsRow : OpenClaim := { program := "ytnbjnokgmeamdaa", sum := "3cac5e97e12610d013a8d738b1310c07d186ca330447363fd687ad2f657a77dc", func := "waveport/waveportlaw07.TransformWindows", spec := "transformWindows", unfollowed := true, recurses := true, named := ["math/bits.overflowError"], apart := false }
def TransformWindowsSaid : Prop := transformWindowsRow.holds Try.pinned (OpenSpec.ofChange transformWindowsSpec)

/-- ITS FALSE NEIGHBOUR: 'it returns false'. Refute it at one input. -/
def transformWindowsWrong : ChangeSpec := { name := "transformWindows", fn := fun _ => fun
  | [d1, d2] => { results := [.lit (.bool false)], args := [d1, d2] }
  | _ => none }
def TransformWindowsWrongFalsely : Prop := transformWindowsRow.holds Try.pinned (OpenSpec.ofChange transformWindowsWrong)

/-- 'waveportlaw07.TransformGreat': WHATEVER THE INPUT: true; the input reads as it did. -/
def transformGreatSpec : ChangeSpec := { name := "transformGreat", fn := fun _ => fun
  | [d1, d2, d3] => { results := [.lit (.bool true)], args := [d1, d2, d3] }
  | _ => none }
def transformGreatRow : OpenClaim := { program := "ytnbjnokgmeamdaa", sum := "3cac5e97e12610d013a8d738b1310c07d186ca330447363fd687ad2f657a77dc", func := "waveport/waveportlaw07.TransformGreat", spec := "transformGreat", unfollowed := true, recurses := true, named := ["math/bits.overflowError"], apart := false }
def TransformGreatSaid : Prop := transformGreatRow.holds Try.pinned (OpenSpec.ofChange transformGreatSpec)

/-- ITS FALSE NEIGHBOUR: 'it returns false'. Refute it at one input. -/
def transformGreatWrong : ChangeSpec := { name := "transformGreat", fn := fun _ => fun
  | [d1, d2, d3] => { results := [.lit (.bool false)], args := [d1, d2, d3] }
  | _ => none }
def TransformGreatWrongFalsely : Prop := transformGreatRow.holds Try.pinned (OpenSpec.ofChange transformGreatWrong)

/-- 'waveportlaw07.TransformParts': WHATEVER THE INPUT: true; the input reads as it did. -/
def transformPartsSpec : ChangeSpec := { name := "transformParts", fn := fun _ => fun
  | [d1, d2, d3, d4] => { results := [.lit (.bool true)], args := [d1, d2, d3, d4] }
  | _ => none }
def transformPartsRow : OpenClaim := { program := "ytnbjnokgmeamdaa", sum := "3cac5e97e12610d013a8d738b1310c07d186ca330447363fd687ad2f657a77dc", func := "waveport/waveportlaw07.TransformParts", spec := "transformParts", unfollowed := true, recurses := true, named := ["math/bits.overflowError"], apart := false }
def TransformPartsSaid : Prop := transformPartsRow.holds Try.pinned (OpenSpec.ofChange transformPartsSpec)

/-- ITS FALSE NEIGHBOUR: 'it returns false'. Refute it at one input. -/
def transformPartsWrong : ChangeSpec := { name := "transformParts", fn := fun _ => fun
  | [d1, d2, d3, d4] => { results := [.lit (.bool false)], args := [d1, d2, d3, d4] }
  | _ => none }
def TransformPartsWrongFalsely : Prop := transformPartsRow.holds Try.pinned (OpenSpec.ofChange transformPartsWrong)

/-- 'waveportlaw07.TransformBack': WHATEVER THE INPUT: true; the input reads as it did. -/
def transformBackSpec : ChangeSpec := { name := "transformBack", fn := fun _ => fun
  | [d1, d2] => { results := [.lit (.bool true)], args := [d1, d2] }
  | _ => none }
def transformBackRow : OpenClaim := { program := "ytnbjnokgmeamdaa", sum := "3cac5e97e12610d013a8d738b1310c07d186ca330447363fd687ad2f657a77dc", func := "waveport/waveportlaw07.TransformBack", spec := "transformBack", unfollowed := true, recurses := true, named := ["math/bits.overflowError"], apart := false }
def TransformBackSaid : Prop := transformBackRow.holds Try.pinned (OpenSpec.ofChange transformBackSpec)

/-- ITS FALSE NEIGHBOUR: 'it returns false'. Refute it at one input. -/
def transformBackWrong : ChangeSpec := { name := "transformBack", fn := fun _ => fun
  | [d1, d2] => { results := [.lit (.bool false)], args := [d1, d2] }
  | _ => none }
def TransformBackWrongFalsely : Prop := transformBackRow.holds Try.pinned (OpenSpec.ofChange transformBackWrong)

/-- 'waveportlaw07.TransformReal': WHATEVER THE INPUT: true; the input reads as it did. -/
def transformRealSpec : ChangeSpec := { name := "transformReal", fn := fun _ => fun
  | [d1, d2, d3] => { results := [.lit (.bool true)], args := [d1, d2, d3] }
  | _ => none }
def transformRealRow : OpenClaim := { program := "ytnbjnokgmeamdaa", sum := "3cac5e97e12610d013a8d738b1310c07d186ca330447363fd687ad2f657a77dc", func := "waveport/waveportlaw07.TransformReal", spec := "transformReal", unfollowed := true, recurses := true, named := ["math/bits.overflowError"], apart := false }
def TransformRealSaid : Prop := transformRealRow.holds Try.pinned (OpenSpec.ofChange transformRealSpec)

/-- ITS FALSE NEIGHBOUR: 'it returns false'. Refute it at one input. -/
def transformRealWrong : ChangeSpec := { name := "transformReal", fn := fun _ => fun
  | [d1, d2, d3] => { results := [.lit (.bool false)], args := [d1, d2, d3] }
  | _ => none }
def TransformRealWrongFalsely : Prop := transformRealRow.holds Try.pinned (OpenSpec.ofChange transformRealWrong)

/-- 'waveportlaw07.TransformGated': WHATEVER THE INPUT: true; the input reads as it did. -/
def transformGatedSpec : ChangeSpec := { name := "transformGated", fn := fun _ => fun
  | [d1, d2, d3, d4] => { results := [.lit (.bool true)], args := [d1, d2, d3, d4] }
  | _ => none }
def transformGatedRow : OpenClaim := { program := "ytnbjnokgmeamdaa", sum := "3cac5e97e12610d013a8d738b1310c07d186ca330447363fd687ad2f657a77dc", func := "waveport/waveportlaw07.TransformGated", spec := "transformGated", unfollowed := true, recurses := true, named := ["math/bits.overflowError"], apart := false }
def TransformGatedSaid : Prop := transformGatedRow.holds Try.pinned (OpenSpec.ofChange transformGatedSpec)

/-- ITS FALSE NEIGHBOUR: 'it returns false'. Refute it at one input. -/
def transformGatedWrong : ChangeSpec := { name := "transformGated", fn := fun _ => fun
  | [d1, d2, d3, d4] => { results := [.lit (.bool false)], args := [d1, d2, d3, d4] }
  | _ => none }
def TransformGatedWrongFalsely : Prop := transformGatedRow.holds Try.pinned (OpenSpec.ofChange transformGatedWrong)

/-- 'waveportlaw07.TransformLaws': WHATEVER THE INPUT: true; the input reads as it did. -/
def transformLawsSpec : ChangeSpec := { name := "transformLaws", fn := fun _ => fun
  | [d1, d2, d3, d4] => { results := [.lit (.bool true)], args := [d1, d2, d3, d4] }
  | _ => none }
def transformLawsRow : OpenClaim := { program := "ytnbjnokgmeamdaa", sum := "3cac5e97e12610d013a8d738b1310c07d186ca330447363fd687ad2f657a77dc", func := "waveport/waveportlaw07.TransformLaws", spec := "transformLaws", unfollowed := true, recurses := true, named := ["math/bits.overflowError"], apart := false }
def TransformLawsSaid : Prop := transformLawsRow.holds Try.pinned (OpenSpec.ofChange transformLawsSpec)

/-- ITS FALSE NEIGHBOUR: 'it returns false'. Refute it at one input. -/
def transformLawsWrong : ChangeSpec := { name := "transformLaws", fn := fun _ => fun
  | [d1, d2, d3, d4] => { results := [.lit (.bool false)], args := [d1, d2, d3, d4] }
  | _ => none }
def TransformLawsWrongFalsely : Prop := transformLawsRow.holds Try.pinned (OpenSpec.ofChange transformLawsWrong)

/-- 'waveportlaw07.TransformRectangles': WHATEVER THE INPUT: true; the input reads as it did. -/
def transformRectanglesSpec : ChangeSpec := { name := "transformRectangles", fn := fun _ => fun
  | [d1, d2, d3] => { results := [.lit (.bool true)], args := [d1, d2, d3] }
  | _ => none }
def transformRectanglesRow : OpenClaim := { program := "ytnbjnokgmeamdaa", sum := "3cac5e97e12610d013a8d738b1310c07d186ca330447363fd687ad2f657a77dc", func := "waveport/waveportlaw07.TransformRectangles", spec := "transformRectangles", unfollowed := true, recurses := true, named := ["math/bits.overflowError"], apart := false }
def TransformRectanglesSaid : Prop := transformRectanglesRow.holds Try.pinned (OpenSpec.ofChange transformRectanglesSpec)

/-- ITS FALSE NEIGHBOUR: 'it returns false'. Refute it at one input. -/
def transformRectanglesWrong : ChangeSpec := { name := "transformRectangles", fn := fun _ => fun
  | [d1, d2, d3] => { results := [.lit (.bool false)], args := [d1, d2, d3] }
  | _ => none }
def TransformRectanglesWrongFalsely : Prop := transformRectanglesRow.holds Try.pinned (OpenSpec.ofChange transformRectanglesWrong)

/- THE SECOND FORM. 'bulk': how many values and letters a reading holds, each counted each time it is reached (what is shared counts as often as it is met; a slice's spare places count too). A statement '..UptoSaid' is the law's where the arguments, and the package variables that the reading takes, are together of bulk at most 1048576: NARROWER than '..Said'. Prove '..Said' where nothing that the law and all that it calls make is longer than what came in: it says more and counts as full. Else prove '..UptoSaid'. A law counts once. -/
mutual
def uptoBulk {H : Type} : DataW H → Nat
  | .lit (.string bytes) => bytes.length + 1
  | .lit _ => 1
  | .nil => 1
  | .ptr d => uptoBulk d + 1
  | .slice elems spare => uptoBulkAll elems + uptoBulkAll spare + 1
  | .agg parts => uptoBulkAll parts + 1
  | .iface _ d => uptoBulk d + 1
  | .map entries => uptoBulkEntries entries + 1
  | .held _ => 1
def uptoBulkAll {H : Type} : List (DataW H) → Nat
  | [] => 0
  | d :: r => uptoBulk d + uptoBulkAll r
def uptoBulkEntries {H : Type} : List (Lit × DataW H) → Nat
  | [] => 0
  | x :: r => uptoBulkEntry x + uptoBulkEntries r
def uptoBulkEntry {H : Type} : Lit × DataW H → Nat
  | (.string bytes, d) => bytes.length + uptoBulk d + 1
  | (_, d) => uptoBulk d + 1
 end
def uptoSmall : (H : Type) → List (DataW H) → Bool := fun _ ds => decide (uptoBulkAll ds ≤ 1048576)
def OpenSpec.upto (s : _root_.Go.ChangeSpec) : _root_.Go.OpenSpec := { _root_.Go.OpenSpec.ofChange s with cond := some uptoSmall }

/-- 'waveportlaw07.TransformWindows', WHERE WHAT IT READS IS OF BULK AT MOST 1048576: true; the input reads as it did. -/
def transformWindowsUptoRow : OpenClaim := { program := "ytnbjnokgmeamdaa", sum := "3cac5e97e12610d013a8d738b1310c07d186ca330447363fd687ad2f657a77dc", func := "waveport/waveportlaw07.TransformWindows", spec := "transformWindows", unfollowed := true, recurses := true, named := ["math/bits.overflowError"], apart := false, narrowed := true }
def TransformWindowsUptoSaid : Prop := transformWindowsUptoRow.holds Try.pinned (OpenSpec.upto transformWindowsSpec)

/-- 'waveportlaw07.TransformGreat', WHERE WHAT IT READS IS OF BULK AT MOST 1048576: true; the input reads as it did. -/
def transformGreatUptoRow : OpenClaim := { program := "ytnbjnokgmeamdaa", sum := "3cac5e97e12610d013a8d738b1310c07d186ca330447363fd687ad2f657a77dc", func := "waveport/waveportlaw07.TransformGreat", spec := "transformGreat", unfollowed := true, recurses := true, named := ["math/bits.overflowError"], apart := false, narrowed := true }
def TransformGreatUptoSaid : Prop := transformGreatUptoRow.holds Try.pinned (OpenSpec.upto transformGreatSpec)

/-- 'waveportlaw07.TransformParts', WHERE WHAT IT READS IS OF BULK AT MOST 1048576: true; the input reads as it did. -/
def transformPartsUptoRow : OpenClaim := { program := "ytnbjnokgmeamdaa", sum := "3cac5e97e12610d013a8d738b1310c07d186ca330447363fd687ad2f657a77dc", func := "waveport/waveportlaw07.TransformParts", spec := "transformParts", unfollowed := true, recurses := true, named := ["math/bits.overflowError"], apart := false, narrowed := true }
def TransformPartsUptoSaid : Prop := transformPartsUptoRow.holds Try.pinned (OpenSpec.upto transformPartsSpec)

/-- 'waveportlaw07.TransformBack', WHERE WHAT IT READS IS OF BULK AT MOST 1048576: true; the input reads as it did. -/
def transformBackUptoRow : OpenClaim := { program := "ytnbjnokgmeamdaa", sum := "3cac5e97e12610d013a8d738b1310c07d186ca330447363fd687ad2f657a77dc", func := "waveport/waveportlaw07.TransformBack", spec := "transformBack", unfollowed := true, recurses := true, named := ["math/bits.overflowError"], apart := false, narrowed := true }
def TransformBackUptoSaid : Prop := transformBackUptoRow.holds Try.pinned (OpenSpec.upto transformBackSpec)

/-- 'waveportlaw07.TransformReal', WHERE WHAT IT READS IS OF BULK AT MOST 1048576: true; the input reads as it did. -/
def transformRealUptoRow : OpenClaim := { program := "ytnbjnokgmeamdaa", sum := "3cac5e97e12610d013a8d738b1310c07d186ca330447363fd687ad2f657a77dc", func := "waveport/waveportlaw07.TransformReal", spec := "transformReal", unfollowed := true, recurses := true, named := ["math/bits.overflowError"], apart := false, narrowed := true }
def TransformRealUptoSaid : Prop := transformRealUptoRow.holds Try.pinned (OpenSpec.upto transformRealSpec)

/-- 'waveportlaw07.TransformGated', WHERE WHAT IT READS IS OF BULK AT MOST 1048576: true; the input reads as it did. -/
def transformGatedUptoRow : OpenClaim := { program := "ytnbjnokgmeamdaa", sum := "3cac5e97e12610d013a8d738b1310c07d186ca330447363fd687ad2f657a77dc", func := "waveport/waveportlaw07.TransformGated", spec := "transformGated", unfollowed := true, recurses := true, named := ["math/bits.overflowError"], apart := false, narrowed := true }
def TransformGatedUptoSaid : Prop := transformGatedUptoRow.holds Try.pinned (OpenSpec.upto transformGatedSpec)

/-- 'waveportlaw07.TransformLaws', WHERE WHAT IT READS IS OF BULK AT MOST 1048576: true; the input reads as it did. -/
def transformLawsUptoRow : OpenClaim := { program := "ytnbjnokgmeamdaa", sum := "3cac5e97e12610d013a8d738b1310c07d186ca330447363fd687ad2f657a77dc", func := "waveport/waveportlaw07.TransformLaws", spec := "transformLaws", unfollowed := true, recurses := true, named := ["math/bits.overflowError"], apart := false, narrowed := true }
def TransformLawsUptoSaid : Prop := transformLawsUptoRow.holds Try.pinned (OpenSpec.upto transformLawsSpec)

/-- 'waveportlaw07.TransformRectangles', WHERE WHAT IT READS IS OF BULK AT MOST 1048576: true; the input reads as it did. -/
def transformRectanglesUptoRow : OpenClaim := { program := "ytnbjnokgmeamdaa", sum := "3cac5e97e12610d013a8d738b1310c07d186ca330447363fd687ad2f657a77dc", func := "waveport/waveportlaw07.TransformRectangles", spec := "transformRectangles", unfollowed := true, recurses := true, named := ["math/bits.overflowError"], apart := false, narrowed := true }
def TransformRectanglesUptoSaid : Prop := transformRectanglesUptoRow.holds Try.pinned (OpenSpec.upto transformRectanglesSpec)

end Rows
end Go.Proofs.Ytnbjnokgmeamdaa
