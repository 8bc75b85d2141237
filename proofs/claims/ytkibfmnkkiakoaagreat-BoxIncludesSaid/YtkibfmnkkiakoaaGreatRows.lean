/-
  No cell of these rows narrows 'for every input' (looked for: loops, veiled, ifaces, maps, wideKeys, modest, calm, conditions, laid).
  DERIVED. THE GIVEN ROWS OF THIS SEAT. 12 by the template 'for every input the law returns true; each argument reads behind the call as it read before'; 0 by the template 'total and deterministic' (their statements: YtkibfmnkkiakoaaGreatTotals.lean).
  GIVEN WITH THE SEED: the statements are not yours to turn. If you find one false, say at which input.
  Laid BY PROGRAM, IN A SANDBOX (cutbox-rows.mjs): the forced cells as the released guide's own fill.sh prints them over the translation ef4342ee54fda420… (all of the seat's roots in one cut). By AI agents, Wed Nov 11 2026. No macro, syntax, notation, axiom, sorry.
-/
import Derived.Test.YtkibfmnkkiakoaaGreatChecked
import GoSem.Claim
import GoSem.ClaimJoined
import GoSem.ClaimMapViews
import Derived.JoinedTies
import Derived.KernelRfl
namespace Go.Proofs.YtkibfmnkkiakoaaGreat
/- THE CELL 'sum', in the pinned program and in every row, IS THE sha256 OF THE DUMP (.gsa) THAT YtkibfmnkkiakoaaGreatProg.lean LOADS. Nothing in Lean hashes anything: it is a label: what it is worth is what the hold of that sum in a sandbox is worth. -/
noncomputable def Tryz.pinned : Pinned := { name := "ytkibfmnkkiakoaagreat", sum := "ef4342ee54fda420737bad65920991e3f459d1f15514cceeae122b2a8f5e026c", checked := Tryz.checked }
namespace Rows
def none {H : Type} : Left H := { results := [], args := [] }

/-- 'waveportlaw02.BoxSums': WHATEVER THE INPUT: true; the input reads as it did. -/
def boxSumsSpec : ChangeSpec := { name := "boxSums", fn := fun _ => fun
  | [d1, d2] => { results := [.lit (.bool true)], args := [d1, d2] }
  | _ => none }
def boxSumsRow : OpenClaim := { program := "ytkibfmnkkiakoaagreat", sum := "ef4342ee54fda420737bad65920991e3f459d1f15514cceeae122b2a8f5e026c", func := "waveport/waveportlaw02.BoxSums", spec := "boxSums", inPlace := ["math.Float64bits", "math.Float64frombits"], unfollowed := true, recurses := true, named := ["math/bits.overflowError"], apart := false }
def BoxSumsSaid : Prop := boxSumsRow.holds Tryz.pinned (OpenSpec.ofChange boxSumsSpec)

/-- ITS FALSE NEIGHBOUR: 'it returns false'. Refute it at one input. -/
def boxSumsWrong : ChangeSpec := { name := "boxSums", fn := fun _ => fun
  | [d1, d2] => { results := [.lit (.bool false)], args := [d1, d2] }
  | _ => none }
def BoxSumsWrongFalsely : Prop := boxSumsRow.holds Tryz.pinned (OpenSpec.ofChange boxSumsWrong)

/-- 'waveportlaw02.BoxInverts': WHATEVER THE INPUT: true; the input reads as it did. -/
def boxInvertsSpec : ChangeSpec := { name := "boxInverts", fn := fun _ => fun
  | [d1, d2] => { results := [.lit (.bool true)], args := [d1, d2] }
  | _ => none }
def boxInvertsRow : OpenClaim := { program := "ytkibfmnkkiakoaagreat", sum := "ef4342ee54fda420737bad65920991e3f459d1f15514cceeae122b2a8f5e026c", func := "waveport/waveportlaw02.BoxInverts", spec := "boxInverts", inPlace := ["math.Float64bits", "math.Float64frombits"], unfollowed := true, recurses := true, named := ["math/bits.overflowError"], apart := false }
def BoxInvertsSaid : Prop := boxInvertsRow.holds Tryz.pinned (OpenSpec.ofChange boxInvertsSpec)

/-- ITS FALSE NEIGHBOUR: 'it returns false'. Refute it at one input. -/
def boxInvertsWrong : ChangeSpec := { name := "boxInverts", fn := fun _ => fun
  | [d1, d2] => { results := [.lit (.bool false)], args := [d1, d2] }
  | _ => none }
def BoxInvertsWrongFalsely : Prop := boxInvertsRow.holds Tryz.pinned (OpenSpec.ofChange boxInvertsWrong)

/-- 'waveportlaw02.BoxAround': WHATEVER THE INPUT: true; the input reads as it did. -/
def boxAroundSpec : ChangeSpec := { name := "boxAround", fn := fun _ => fun
  | [d1, d2, d3] => { results := [.lit (.bool true)], args := [d1, d2, d3] }
  | _ => none }
def boxAroundRow : OpenClaim := { program := "ytkibfmnkkiakoaagreat", sum := "ef4342ee54fda420737bad65920991e3f459d1f15514cceeae122b2a8f5e026c", func := "waveport/waveportlaw02.BoxAround", spec := "boxAround", inPlace := ["math.Float64bits", "math.Float64frombits"], unfollowed := true, recurses := true, named := ["math/bits.overflowError"], apart := false }
def BoxAroundSaid : Prop := boxAroundRow.holds Tryz.pinned (OpenSpec.ofChange boxAroundSpec)

/-- ITS FALSE NEIGHBOUR: 'it returns false'. Refute it at one input. -/
def boxAroundWrong : ChangeSpec := { name := "boxAround", fn := fun _ => fun
  | [d1, d2, d3] => { results := [.lit (.bool false)], args := [d1, d2, d3] }
  | _ => none }
def BoxAroundWrongFalsely : Prop := boxAroundRow.holds Tryz.pinned (OpenSpec.ofChange boxAroundWrong)

/-- 'waveportlaw02.BoxProducts': WHATEVER THE INPUT: true; the input reads as it did. -/
def boxProductsSpec : ChangeSpec := { name := "boxProducts", fn := fun _ => fun
  | [d1, d2] => { results := [.lit (.bool true)], args := [d1, d2] }
  | _ => none }
def boxProductsRow : OpenClaim := { program := "ytkibfmnkkiakoaagreat", sum := "ef4342ee54fda420737bad65920991e3f459d1f15514cceeae122b2a8f5e026c", func := "waveport/waveportlaw02.BoxProducts", spec := "boxProducts", inPlace := ["math.Float64bits", "math.Float64frombits"], unfollowed := true, recurses := true, named := ["math/bits.overflowError"], apart := false }
def BoxProductsSaid : Prop := boxProductsRow.holds Tryz.pinned (OpenSpec.ofChange boxProductsSpec)

/-- ITS FALSE NEIGHBOUR: 'it returns false'. Refute it at one input. -/
def boxProductsWrong : ChangeSpec := { name := "boxProducts", fn := fun _ => fun
  | [d1, d2] => { results := [.lit (.bool false)], args := [d1, d2] }
  | _ => none }
def BoxProductsWrongFalsely : Prop := boxProductsRow.holds Tryz.pinned (OpenSpec.ofChange boxProductsWrong)

/-- 'waveportlaw02.BoxSets': WHATEVER THE INPUT: true; the input reads as it did. -/
def boxSetsSpec : ChangeSpec := { name := "boxSets", fn := fun _ => fun
  | [d1, d2, d3] => { results := [.lit (.bool true)], args := [d1, d2, d3] }
  | _ => none }
def boxSetsRow : OpenClaim := { program := "ytkibfmnkkiakoaagreat", sum := "ef4342ee54fda420737bad65920991e3f459d1f15514cceeae122b2a8f5e026c", func := "waveport/waveportlaw02.BoxSets", spec := "boxSets", inPlace := ["math.Float64bits", "math.Float64frombits"], unfollowed := true, recurses := true, named := ["math/bits.overflowError"], apart := false }
def BoxSetsSaid : Prop := boxSetsRow.holds Tryz.pinned (OpenSpec.ofChange boxSetsSpec)

/-- ITS FALSE NEIGHBOUR: 'it returns false'. Refute it at one input. -/
def boxSetsWrong : ChangeSpec := { name := "boxSets", fn := fun _ => fun
  | [d1, d2, d3] => { results := [.lit (.bool false)], args := [d1, d2, d3] }
  | _ => none }
def BoxSetsWrongFalsely : Prop := boxSetsRow.holds Tryz.pinned (OpenSpec.ofChange boxSetsWrong)

/-- 'waveportlaw02.BoxPoints': WHATEVER THE INPUT: true; the input reads as it did. -/
def boxPointsSpec : ChangeSpec := { name := "boxPoints", fn := fun _ => fun
  | [d1, d2] => { results := [.lit (.bool true)], args := [d1, d2] }
  | _ => none }
def boxPointsRow : OpenClaim := { program := "ytkibfmnkkiakoaagreat", sum := "ef4342ee54fda420737bad65920991e3f459d1f15514cceeae122b2a8f5e026c", func := "waveport/waveportlaw02.BoxPoints", spec := "boxPoints", inPlace := ["math.Float64bits", "math.Float64frombits"], unfollowed := true, recurses := true, named := ["math/bits.overflowError"], apart := false }
def BoxPointsSaid : Prop := boxPointsRow.holds Tryz.pinned (OpenSpec.ofChange boxPointsSpec)

/-- ITS FALSE NEIGHBOUR: 'it returns false'. Refute it at one input. -/
def boxPointsWrong : ChangeSpec := { name := "boxPoints", fn := fun _ => fun
  | [d1, d2] => { results := [.lit (.bool false)], args := [d1, d2] }
  | _ => none }
def BoxPointsWrongFalsely : Prop := boxPointsRow.holds Tryz.pinned (OpenSpec.ofChange boxPointsWrong)

/-- 'waveportlaw02.BoxRoots': WHATEVER THE INPUT: true; the input reads as it did. -/
def boxRootsSpec : ChangeSpec := { name := "boxRoots", fn := fun _ => fun
  | [d] => { results := [.lit (.bool true)], args := [d] }
  | _ => none }
def boxRootsRow : OpenClaim := { program := "ytkibfmnkkiakoaagreat", sum := "ef4342ee54fda420737bad65920991e3f459d1f15514cceeae122b2a8f5e026c", func := "waveport/waveportlaw02.BoxRoots", spec := "boxRoots", inPlace := ["math.Float64bits", "math.Float64frombits"], unfollowed := true, recurses := true, named := ["math/bits.overflowError"], apart := false }
def BoxRootsSaid : Prop := boxRootsRow.holds Tryz.pinned (OpenSpec.ofChange boxRootsSpec)

/-- ITS FALSE NEIGHBOUR: 'it returns false'. Refute it at one input. -/
def boxRootsWrong : ChangeSpec := { name := "boxRoots", fn := fun _ => fun
  | [d] => { results := [.lit (.bool false)], args := [d] }
  | _ => none }
def BoxRootsWrongFalsely : Prop := boxRootsRow.holds Tryz.pinned (OpenSpec.ofChange boxRootsWrong)

/-- 'waveportlaw02.BoxSquares': WHATEVER THE INPUT: true; the input reads as it did. -/
def boxSquaresSpec : ChangeSpec := { name := "boxSquares", fn := fun _ => fun
  | [d] => { results := [.lit (.bool true)], args := [d] }
  | _ => none }
def boxSquaresRow : OpenClaim := { program := "ytkibfmnkkiakoaagreat", sum := "ef4342ee54fda420737bad65920991e3f459d1f15514cceeae122b2a8f5e026c", func := "waveport/waveportlaw02.BoxSquares", spec := "boxSquares", inPlace := ["math.Float64bits", "math.Float64frombits"], unfollowed := true, recurses := true, named := ["math/bits.overflowError"], apart := false }
def BoxSquaresSaid : Prop := boxSquaresRow.holds Tryz.pinned (OpenSpec.ofChange boxSquaresSpec)

/-- ITS FALSE NEIGHBOUR: 'it returns false'. Refute it at one input. -/
def boxSquaresWrong : ChangeSpec := { name := "boxSquares", fn := fun _ => fun
  | [d] => { results := [.lit (.bool false)], args := [d] }
  | _ => none }
def BoxSquaresWrongFalsely : Prop := boxSquaresRow.holds Tryz.pinned (OpenSpec.ofChange boxSquaresWrong)

/-- 'waveportlaw02.BoxReals': WHATEVER THE INPUT: true; the input reads as it did. -/
def boxRealsSpec : ChangeSpec := { name := "boxReals", fn := fun _ => fun
  | [d1, d2] => { results := [.lit (.bool true)], args := [d1, d2] }
  | _ => none }
def boxRealsRow : OpenClaim := { program := "ytkibfmnkkiakoaagreat", sum := "ef4342ee54fda420737bad65920991e3f459d1f15514cceeae122b2a8f5e026c", func := "waveport/waveportlaw02.BoxReals", spec := "boxReals", inPlace := ["math.Float64bits", "math.Float64frombits"], unfollowed := true, recurses := true, named := ["math/bits.overflowError"], apart := false }
def BoxRealsSaid : Prop := boxRealsRow.holds Tryz.pinned (OpenSpec.ofChange boxRealsSpec)

/-- ITS FALSE NEIGHBOUR: 'it returns false'. Refute it at one input. -/
def boxRealsWrong : ChangeSpec := { name := "boxReals", fn := fun _ => fun
  | [d1, d2] => { results := [.lit (.bool false)], args := [d1, d2] }
  | _ => none }
def BoxRealsWrongFalsely : Prop := boxRealsRow.holds Tryz.pinned (OpenSpec.ofChange boxRealsWrong)

/-- 'waveportlaw02.BoxGrows': WHATEVER THE INPUT: true; the input reads as it did. -/
def boxGrowsSpec : ChangeSpec := { name := "boxGrows", fn := fun _ => fun
  | [d1, d2, d3] => { results := [.lit (.bool true)], args := [d1, d2, d3] }
  | _ => none }
def boxGrowsRow : OpenClaim := { program := "ytkibfmnkkiakoaagreat", sum := "ef4342ee54fda420737bad65920991e3f459d1f15514cceeae122b2a8f5e026c", func := "waveport/waveportlaw02.BoxGrows", spec := "boxGrows", inPlace := ["math.Float64bits", "math.Float64frombits"], unfollowed := true, recurses := true, named := ["math/bits.overflowError"], apart := false }
def BoxGrowsSaid : Prop := boxGrowsRow.holds Tryz.pinned (OpenSpec.ofChange boxGrowsSpec)

/-- ITS FALSE NEIGHBOUR: 'it returns false'. Refute it at one input. -/
def boxGrowsWrong : ChangeSpec := { name := "boxGrows", fn := fun _ => fun
  | [d1, d2, d3] => { results := [.lit (.bool false)], args := [d1, d2, d3] }
  | _ => none }
def BoxGrowsWrongFalsely : Prop := boxGrowsRow.holds Tryz.pinned (OpenSpec.ofChange boxGrowsWrong)

/-- 'waveportlaw02.BoxSolves': WHATEVER THE INPUT: true; the input reads as it did. -/
def boxSolvesSpec : ChangeSpec := { name := "boxSolves", fn := fun _ => fun
  | [d1, d2, d3] => { results := [.lit (.bool true)], args := [d1, d2, d3] }
  | _ => none }
def boxSolvesRow : OpenClaim := { program := "ytkibfmnkkiakoaagreat", sum := "ef4342ee54fda420737bad65920991e3f459d1f15514cceeae122b2a8f5e026c", func := "waveport/waveportlaw02.BoxSolves", spec := "boxSolves", inPlace := ["math.Float64bits", "math.Float64frombits"], unfollowed := true, recurses := true, named := ["math/bits.overflowError"], apart := false }
def BoxSolvesSaid : Prop := boxSolvesRow.holds Tryz.pinned (OpenSpec.ofChange boxSolvesSpec)

/-- ITS FALSE NEIGHBOUR: 'it returns false'. Refute it at one input. -/
def boxSolvesWrong : ChangeSpec := { name := "boxSolves", fn := fun _ => fun
  | [d1, d2, d3] => { results := [.lit (.bool false)], args := [d1, d2, d3] }
  | _ => none }
def BoxSolvesWrongFalsely : Prop := boxSolvesRow.holds Tryz.pinned (OpenSpec.ofChange boxSolvesWrong)

/-- 'waveportlaw02.BoxIncludes': WHATEVER THE INPUT: true; the input reads as it did. -/
def boxIncludesSpec : ChangeSpec := { name := "boxIncludes", fn := fun _ => fun
  | [d1, d2, d3] => { results := [.lit (.bool true)], args := [d1, d2, d3] }
  | _ => none }
def boxIncludesRow : OpenClaim := { program := "ytkibfmnkkiakoaagreat", sum := "ef4342ee54fda420737bad65920991e3f459d1f15514cceeae122b2a8f5e026c", func := "waveport/waveportlaw02.BoxIncludes", spec := "boxIncludes", inPlace := ["math.Float64bits", "math.Float64frombits"], unfollowed := true, recurses := true, named := ["math/bits.overflowError"], apart := false }
def BoxIncludesSaid : Prop := boxIncludesRow.holds Tryz.pinned (OpenSpec.ofChange boxIncludesSpec)

/-- ITS FALSE NEIGHBOUR: 'it returns false'. Refute it at one input. -/
def boxIncludesWrong : ChangeSpec := { name := "boxIncludes", fn := fun _ => fun
  | [d1, d2, d3] => { results := [.lit (.bool false)], args := [d1, d2, d3] }
  | _ => none }
def BoxIncludesWrongFalsely : Prop := boxIncludesRow.holds Tryz.pinned (OpenSpec.ofChange boxIncludesWrong)

/- THE SECOND FORM. 'bulk': how many values and letters a reading holds, each counted each time it is reached (what is shared counts as often as it is met; a slice's spare places count too). A statement '..UptoSaid' is the law's where the arguments, and the package variables that the reading takes, are together of bulk at most 1048576: NARROWER than '..Said'. Prove '..Said' where nothing that the law and all that it calls make is longer than what came in: it says more and counts as full. Else prove '..UptoSaid'. A law counts once. -/
mutual
def uptoBulk {H : Type} : DataW H → Nat
  | .lit (.string bytes) => bytes.length + 1
  | .lit _ => 1
  | .nil => 1
  | .ptr d => uptoBulk d + 1
  | .slice elems spare => uptoBulkAll elems + uptoBulkAll spare + 1
  | .agg parts => uptoBulkAll parts + 1
  | .iface _ d => uptoBulk d + 1
  | .map entries => uptoBulkEntries entries + 1
  | .held _ => 1
def uptoBulkAll {H : Type} : List (DataW H) → Nat
  | [] => 0
  | d :: r => uptoBulk d + uptoBulkAll r
def uptoBulkEntries {H : Type} : List (Lit × DataW H) → Nat
  | [] => 0
  | x :: r => uptoBulkEntry x + uptoBulkEntries r
def uptoBulkEntry {H : Type} : Lit × DataW H → Nat
  | (.string bytes, d) => bytes.length + uptoBulk d + 1
  | (_, d) => uptoBulk d + 1
 end
def uptoSmall : (H : Type) → List (DataW H) → Bool := fun _ ds => decide (uptoBulkAll ds ≤ 1048576)
def OpenSpec.upto (s : _root_.Go.ChangeSpec) : _root_.Go.OpenSpec := { _root_.Go.OpenSpec.ofChange s with cond := some uptoSmall }

/-- 'waveportlaw02.BoxSums', WHERE WHAT IT READS IS OF BULK AT MOST 1048576: true; the input reads as it did. -/
def boxSumsUptoRow : OpenClaim := { program := "ytkibfmnkkiakoaagreat", sum := "ef4342ee54fda420737bad65920991e3f459d1f15514cceeae122b2a8f5e026c", func := "waveport/waveportlaw02.BoxSums", spec := "boxSums", inPlace := ["math.Float64bits", "math.Float64frombits"], unfollowed := true, recurses := true, named := ["math/bits.overflowError"], apart := false, narrowed := true }
def BoxSumsUptoSaid : Prop := boxSumsUptoRow.holds Tryz.pinned (OpenSpec.upto boxSumsSpec)

/-- 'waveportlaw02.BoxInverts', WHERE WHAT IT READS IS OF BULK AT MOST 1048576: true; the input reads as it did. -/
def boxInvertsUptoRow : OpenClaim := { program := "ytkibfmnkkiakoaagreat", sum := "ef4342ee54fda420737bad65920991e3f459d1f15514cceeae122b2a8f5e026c", func := "waveport/waveportlaw02.BoxInverts", spec := "boxInverts", inPlace := ["math.Float64bits", "math.Float64frombits"], unfollowed := true, recurses := true, named := ["math/bits.overflowError"], apart := false, narrowed := true }
def BoxInvertsUptoSaid : Prop := boxInvertsUptoRow.holds Tryz.pinned (OpenSpec.upto boxInvertsSpec)

/-- 'waveportlaw02.BoxAround', WHERE WHAT IT READS IS OF BULK AT MOST 1048576: true; the input reads as it did. -/
def boxAroundUptoRow : OpenClaim := { program := "ytkibfmnkkiakoaagreat", sum := "ef4342ee54fda420737bad65920991e3f459d1f15514cceeae122b2a8f5e026c", func := "waveport/waveportlaw02.BoxAround", spec := "boxAround", inPlace := ["math.Float64bits", "math.Float64frombits"], unfollowed := true, recurses := true, named := ["math/bits.overflowError"], apart := false, narrowed := true }
def BoxAroundUptoSaid : Prop := boxAroundUptoRow.holds Tryz.pinned (OpenSpec.upto boxAroundSpec)

/-- 'waveportlaw02.BoxProducts', WHERE WHAT IT READS IS OF BULK AT MOST 1048576: true; the input reads as it did. -/
def boxProductsUptoRow : OpenClaim := { program := "ytkibfmnkkiakoaagreat", sum := "ef4342ee54fda420737bad65920991e3f459d1f15514cceeae122b2a8f5e026c", func := "waveport/waveportlaw02.BoxProducts", spec := "boxProducts", inPlace := ["math.Float64bits", "math.Float64frombits"], unfollowed := true, recurses := true, named := ["math/bits.overflowError"], apart := false, narrowed := true }
def BoxProductsUptoSaid : Prop := boxProductsUptoRow.holds Tryz.pinned (OpenSpec.upto boxProductsSpec)

/-- 'waveportlaw02.BoxSets', WHERE WHAT IT READS IS OF BULK AT MOST 1048576: true; the input reads as it did. -/
def boxSetsUptoRow : OpenClaim := { program := "ytkibfmnkkiakoaagreat", sum := "ef4342ee54fda420737bad65920991e3f459d1f15514cceeae122b2a8f5e026c", func := "waveport/waveportlaw02.BoxSets", spec := "boxSets", inPlace := ["math.Float64bits", "math.Float64frombits"], unfollowed := true, recurses := true, named := ["math/bits.overflowError"], apart := false, narrowed := true }
def BoxSetsUptoSaid : Prop := boxSetsUptoRow.holds Tryz.pinned (OpenSpec.upto boxSetsSpec)

/-- 'waveportlaw02.BoxPoints', WHERE WHAT IT READS IS OF BULK AT MOST 1048576: true; the input reads as it did. -/
def boxPointsUptoRow : OpenClaim := { program := "ytkibfmnkkiakoaagreat", sum := "ef4342ee54fda420737bad65920991e3f459d1f15514cceeae122b2a8f5e026c", func := "waveport/waveportlaw02.BoxPoints", spec := "boxPoints", inPlace := ["math.Float64bits", "math.Float64frombits"], unfollowed := true, recurses := true, named := ["math/bits.overflowError"], apart := false, narrowed := true }
def BoxPointsUptoSaid : Prop := boxPointsUptoRow.holds Tryz.pinned (OpenSpec.upto boxPointsSpec)

/-- 'waveportlaw02.BoxRoots', WHERE WHAT IT READS IS OF BULK AT MOST 1048576: true; the input reads as it did. -/
def boxRootsUptoRow : OpenClaim := { program := "ytkibfmnkkiakoaagreat", sum := "ef4342ee54fda420737bad65920991e3f459d1f15514cceeae122b2a8f5e026c", func := "waveport/waveportlaw02.BoxRoots", spec := "boxRoots", inPlace := ["math.Float64bits", "math.Float64frombits"], unfollowed := true, recurses := true, named := ["math/bits.overflowError"], apart := false, narrowed := true }
def BoxRootsUptoSaid : Prop := boxRootsUptoRow.holds Tryz.pinned (OpenSpec.upto boxRootsSpec)

/-- 'waveportlaw02.BoxSquares', WHERE WHAT IT READS IS OF BULK AT MOST 1048576: true; the input reads as it did. -/
def boxSquaresUptoRow : OpenClaim := { program := "ytkibfmnkkiakoaagreat", sum := "ef4342ee54fda420737bad65920991e3f459d1f15514cceeae122b2a8f5e026c", func := "waveport/waveportlaw02.BoxSquares", spec := "boxSquares", inPlace := ["math.Float64bits", "math.Float64frombits"], unfollowed := true, recurses := true, named := ["math/bits.overflowError"], apart := false, narrowed := true }
def BoxSquaresUptoSaid : Prop := boxSquaresUptoRow.holds Tryz.pinned (OpenSpec.upto boxSquaresSpec)

/-- 'waveportlaw02.BoxReals', WHERE WHAT IT READS IS OF BULK AT MOST 1048576: true; the input reads as it did. -/
def boxRealsUptoRow : OpenClaim := { program := "ytkibfmnkkiakoaagreat", sum := "ef4342ee54fda420737bad65920991e3f459d1f15514cceeae122b2a8f5e026c", func := "waveport/waveportlaw02.BoxReals", spec := "boxReals", inPlace := ["math.Float64bits", "math.Float64frombits"], unfollowed := true, recurses := true, named := ["math/bits.overflowError"], apart := false, narrowed := true }
def BoxRealsUptoSaid : Prop := boxRealsUptoRow.holds Tryz.pinned (OpenSpec.upto boxRealsSpec)

/-- 'waveportlaw02.BoxGrows', WHERE WHAT IT READS IS OF BULK AT MOST 1048576: true; the input reads as it did. -/
def boxGrowsUptoRow : OpenClaim := { program := "ytkibfmnkkiakoaagreat", sum := "ef4342ee54fda420737bad65920991e3f459d1f15514cceeae122b2a8f5e026c", func := "waveport/waveportlaw02.BoxGrows", spec := "boxGrows", inPlace := ["math.Float64bits", "math.Float64frombits"], unfollowed := true, recurses := true, named := ["math/bits.overflowError"], apart := false, narrowed := true }
def BoxGrowsUptoSaid : Prop := boxGrowsUptoRow.holds Tryz.pinned (OpenSpec.upto boxGrowsSpec)

/-- 'waveportlaw02.BoxSolves', WHERE WHAT IT READS IS OF BULK AT MOST 1048576: true; the input reads as it did. -/
def boxSolvesUptoRow : OpenClaim := { program := "ytkibfmnkkiakoaagreat", sum := "ef4342ee54fda420737bad65920991e3f459d1f15514cceeae122b2a8f5e026c", func := "waveport/waveportlaw02.BoxSolves", spec := "boxSolves", inPlace := ["math.Float64bits", "math.Float64frombits"], unfollowed := true, recurses := true, named := ["math/bits.overflowError"], apart := false, narrowed := true }
def BoxSolvesUptoSaid : Prop := boxSolvesUptoRow.holds Tryz.pinned (OpenSpec.upto boxSolvesSpec)

/-- 'waveportlaw02.BoxIncludes', WHERE WHAT IT READS IS OF BULK AT MOST 1048576: true; the input reads as it did. -/
def boxIncludesUptoRow : OpenClaim := { program := "ytkibfmnkkiakoaagreat", sum := "ef4342ee54fda420737bad65920991e3f459d1f15514cceeae122b2a8f5e026c", func := "waveport/waveportlaw02.BoxIncludes", spec := "boxIncludes", inPlace := ["math.Float64bits", "math.Float64frombits"], unfollowed := true, recurses := true, named := ["math/bits.overflowError"], apart := false, narrowed := true }
def BoxIncludesUptoSaid : Prop := boxIncludesUptoRow.holds Tryz.pinned (OpenSpec.upto boxIncludesSpec)

end Rows
end Go.Proofs.YtkibfmnkkiakoaaGreat
