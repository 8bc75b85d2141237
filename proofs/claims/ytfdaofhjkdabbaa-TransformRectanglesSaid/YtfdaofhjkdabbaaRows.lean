/-
  No cell of these rows narrows 'for every input' (looked for: loops, veiled, ifaces, maps, wideKeys, modest, calm, conditions, laid).
  DERIVED. THE GIVEN ROWS OF THIS SEAT. 3 by the template 'for every input the law returns true; each argument reads behind the call as it read before'; 0 by the template 'total and deterministic' (their statements: YtfdaofhjkdabbaaTotals.lean).
  GIVEN WITH THE SEED: the statements are not yours to turn. If you find one false, say at which input.
  Laid BY PROGRAM, IN A SANDBOX (cutbox-rows.mjs): the forced cells as the released guide's own fill.sh prints them over the translation cf96e92ed535be7e… (all of the seat's roots in one cut). By AI agents, Wed Nov 11 2026. No macro, syntax, notation, axiom, sorry.
-/
import Derived.Test.YtfdaofhjkdabbaaChecked
import GoSem.Claim
import GoSem.ClaimJoined
import GoSem.ClaimMapViews
import Derived.JoinedTies
import Derived.KernelRfl
namespace Go.Proofs.Ytfdaofhjkdabbaa
/- THE CELL 'sum', in the pinned program and in every row, IS THE sha256 OF THE DUMP (.gsa) THAT YtfdaofhjkdabbaaProg.lean LOADS. Nothing in Lean hashes anything: it is a label: what it is worth is what the hold of that sum in a sandbox is worth. -/
noncomputable def Try.pinned : Pinned := { name := "ytfdaofhjkdabbaa", sum := "cf96e92ed535be7e1e1fb0b3e9c738a51c3be0dc250988009ea20b6d3320ea10", checked := Try.checked }
namespace Rows
def none {H : Type} : Left H := { results := [], args := [] }

/-- 'waveportlaw07.TransformLaws': WHATEVER THE INPUT: true; the input reads as it did. -/
def transformLawsSpec : ChangeSpec := { name := "transformLaws", fn := fun _ => fun
  | [d1, d2, d3, d4] => { results := [.lit (.bool true)], args := [d1, d2, d3, d4] }
  | _ => none }
def transformLawsRow : OpenClaim := { program := "ytfdaofhjkdabbaa", sum := "cf96e92ed535be7e1e1fb0b3e9c738a51c3be0dc250988009ea20b6d3320ea10", func := "waveport/waveportlaw07.TransformLaws", spec := "transformLaws", unfollowed := true, recurses := true, named := ["math/bits.overflowError"], apart := false }
def TransformLawsSaid : Prop := transformLawsRow.holds Try.pinned (OpenSpec.ofChange transformLawsSpec)

/-- ITS FALSE NEIGHBOUR: 'it returns false'. Refute it at one input. -/
def transformLawsWrong : ChangeSpec := { name := "transformLaws", fn := fun _ => fun
  | [d1, d2, d3, d4] => { results := [.lit (.bool false)], args := [d1, d2, d3, d4] }
  | _ => none }
def TransformLawsWrongFalsely : Prop := transformLawsRow.holds Try.pinned (OpenSpec.ofChange transformLawsWrong)

/-- 'waveportlaw07.TransformRectangles': WHATEVER THE INPUT: true; the input reads as it did. -/
def transformRectanglesSpec : ChangeSpec := { name := "transformRectangles", fn := fun _ => fun
  | [d1, d2, d3] => { results := [.lit (.bool true)], args := [d1, d2, d3] }
  | _ => none }
def transformRectanglesRow : OpenClaim := { program := "ytfdaofhjkdabbaa", sum := "cf96e92ed535be7e1e1fb0b3e9c738a51c3be0dc250988009ea20b6d3320ea10", func := "waveport/waveportlaw07.TransformRectangles", spec := "transformRectangles", unfollowed := true, recurses := true, named := ["math/bits.overflowError"], apart := false }
def TransformRectanglesSaid : Prop := transformRectanglesRow.holds Try.pinned (OpenSpec.ofChange transformRectanglesSpec)

/-- ITS FALSE NEIGHBOUR: 'it returns false'. Refute it at one input. -/
def transformRectanglesWrong : ChangeSpec := { name := "transformRectangles", fn := fun _ => fun
  | [d1, d2, d3] => { results := [.lit (.bool false)], args := [d1, d2, d3] }
  | _ => none }
def TransformRectanglesWrongFalsely : Prop := transformRectanglesRow.holds Try.pinned (OpenSpec.ofChange transformRectanglesWrong)

/-- 'waveportlaw08.ScanEvenly': WHATEVER THE INPUT: true; the input reads as it did. -/
def scanEvenlySpec : ChangeSpec := { name := "scanEvenly", fn := fun _ => fun
  | [d1, d2, d3, d4, d5, d6, d7, d8] => { results := [.lit (.bool true)], args := [d1, d2, d3, d4, d5, d6, d7, d8] }
  | _ => none }
def scanEvenlyRow : OpenClaim := { program := "ytfdaofhjkdabbaa", sum := "cf96e92ed535be7e1e1fb0b3e9c738a51c3be0dc250988009ea20b6d3320ea10", func := "waveport/waveportlaw08.ScanEvenly", spec := "scanEvenly", unfollowed := true, recurses := true, named := ["math/bits.overflowError"], apart := false }
def ScanEvenlySaid : Prop := scanEvenlyRow.holds Try.pinned (OpenSpec.ofChange scanEvenlySpec)

/-- ITS FALSE NEIGHBOUR: 'it returns false'. Refute it at one input. -/
def scanEvenlyWrong : ChangeSpec := { name := "scanEvenly", fn := fun _ => fun
  | [d1, d2, d3, d4, d5, d6, d7, d8] => { results := [.lit (.bool false)], args := [d1, d2, d3, d4, d5, d6, d7, d8] }
  | _ => none }
def ScanEvenlyWrongFalsely : Prop := scanEvenlyRow.holds Try.pinned (OpenSpec.ofChange scanEvenlyWrong)

/- THE SECOND FORM. 'bulk': how many values and letters a reading holds, each counted each time it is reached (what is shared counts as often as it is met; a slice's spare places count too). A statement '..UptoSaid' is the law's where the arguments, and the package variables that the reading takes, are together of bulk at most 1048576: NARROWER than '..Said'. Prove '..Said' where nothing that the law and all that it calls make is longer than what came in: it says more and counts as full. Else prove '..UptoSaid'. A law counts once. -/
mutual
def uptoBulk {H : Type} : DataW H → Nat
  | .lit (.string bytes) => bytes.length + 1
  | .lit _ => 1
  | .nil => 1
  | .ptr d => uptoBulk d + 1
  | .slice elems spare => uptoBulkAll elems + uptoBulkAll spare + 1
  | .agg parts => uptoBulkAll parts + 1
  | .iface _ d => uptoBulk d + 1
  | .map entries => uptoBulkEntries entries + 1
  | .held _ => 1
def uptoBulkAll {H : Type} : List (DataW H) → Nat
  | [] => 0
  | d :: r => uptoBulk d + uptoBulkAll r
def uptoBulkEntries {H : Type} : List (Lit × DataW H) → Nat
  | [] => 0
  | x :: r => uptoBulkEntry x + uptoBulkEntries r
def uptoBulkEntry {H : Type} : Lit × DataW H → Nat
  | (.string bytes, d) => bytes.length + uptoBulk d + 1
  | (_, d) => uptoBulk d + 1
 end
def uptoSmall : (H : Type) → List (DataW H) → Bool := fun _ ds => decide (uptoBulkAll ds ≤ 1048576)
def OpenSpec.upto (s : _root_.Go.ChangeSpec) : _root_.Go.OpenSpec := { _root_.Go.OpenSpec.ofChange s with cond := some uptoSmall }

/-- 'waveportlaw07.TransformLaws', WHERE WHAT IT READS IS OF BULK AT MOST 1048576: true; the input reads as it did. -/
def transformLawsUptoRow : OpenClaim := { program := "ytfdaofhjkdabbaa", sum := "cf96e92ed535be7e1e1fb0b3e9c738a51c3be0dc250988009ea20b6d3320ea10", func := "waveport/waveportlaw07.TransformLaws", spec := "transformLaws", unfollowed := true, recurses := true, named := ["math/bits.overflowError"], apart := false, narrowed := true }
def TransformLawsUptoSaid : Prop := transformLawsUptoRow.holds Try.pinned (OpenSpec.upto transformLawsSpec)

/-- 'waveportlaw07.TransformRectangles', WHERE WHAT IT READS IS OF BULK AT MOST 1048576: true; the input reads as it did. -/
def transformRectanglesUptoRow : OpenClaim := { program := "ytfdaofhjkdabbaa", sum := "cf96e92ed535be7e1e1fb0b3e9c738a51c3be0dc250988009ea20b6d3320ea10", func := "waveport/waveportlaw07.TransformRectangles", spec := "transformRectangles", unfollowed := true, recurses := true, named := ["math/bits.overflowError"], apart := false, narrowed := true }
def TransformRectanglesUptoSaid : Prop := transformRectanglesUptoRow.holds Try.pinned (OpenSpec.upto transformRectanglesSpec)

/-- 'waveportlaw08.ScanEvenly', WHERE WHAT IT READS IS OF BULK AT MOST 1048576: true; the input reads as it did. -/
def scanEvenlyUptoRow : OpenClaim := { program := "ytfdaofhjkdabbaa", sum := "cf96e92ed535be7e1e1fb0b3e9c738a51c3be0dc250988009ea20b6d3320ea10", func := "waveport/waveportlaw08.ScanEvenly", spec := "scanEvenly", unfollowed := true, recurses := true, named := ["math/bits.overflowError"], apart := false, narrowed := true }
def ScanEvenlyUptoSaid : Prop := scanEvenlyUptoRow.holds Try.pinned (OpenSpec.upto scanEvenlySpec)

end Rows
end Go.Proofs.Ytfdaofhjkdabbaa
