/- The plain laws of the transforms of 1, 2 and 4 numbers: by stages and by definition are one, and each inverse leads back. No program in sight. -/
import Derived.Test.YtnbjnokgmeamdaaVList
namespace Go.Vc
open Go

def one4 : List Cq := [⟨1, 0⟩, ⟨0, -1⟩, ⟨-1, 0⟩, ⟨0, 1⟩]
def one4c : List Cq := [⟨1, 0⟩, ⟨0, 1⟩, ⟨-1, 0⟩, ⟨0, -1⟩]
def one2 : List Cq := [⟨1, 0⟩, ⟨-1, 0⟩]
def one1 : List Cq := [⟨1, 0⟩]
theorem neg0 : (-(0 : Rat)) = 0 := by grind
theorem negneg1 : (-(-1 : Rat)) = 1 := by grind
theorem conj4 : conjF one4 = one4c := by
  have e : conjF one4 = [⟨1, -0⟩, ⟨0, - -1⟩, ⟨-1, -0⟩, ⟨0, -1⟩] := rfl
  rw [e, neg0, negneg1]; rfl
theorem conj2 : conjF one2 = one2 := by
  have e : conjF one2 = [⟨1, -0⟩, ⟨-1, -0⟩] := rfl
  rw [e, neg0]; rfl
theorem conj1 : conjF one1 = one1 := by
  have e : conjF one1 = [⟨1, -0⟩] := rfl
  rw [e, neg0]; rfl

theorem fwd4 (a b c d w0 w1 w2 w3 : Cq) : fwdF [a, b, c, d] [w0, w1, w2, w3] =
    [a * w0 + b * w0 + c * w0 + d * w0, a * w0 + b * w1 + c * w2 + d * w3, a * w0 + b * w2 + c * w0 + d * w2, a * w0 + b * w3 + c * w2 + d * w1] := by simp [fwdF, fsum, nth, List.range_succ]
theorem stage4 (a b c d w0 w1 w2 w3 : Cq) : stageF 2 [a, b, c, d] [w0, w1, w2, w3] =
    [(a + c * w0) + (b + d * w0) * w0, (a - c * w0) + (b - d * w0) * w1, (a + c * w0) - (b + d * w0) * w0, (a - c * w0) - (b - d * w0) * w1] := by simp [stageF, everyF, nth, List.range_succ]
theorem fwd2 (a b w0 w1 : Cq) : fwdF [a, b] [w0, w1] = [a * w0 + b * w0, a * w0 + b * w1] := rfl
theorem stage2 (a b w0 w1 : Cq) : stageF 1 [a, b] [w0, w1] = [a + b * w0, a - b * w0] := by simp [stageF, everyF, nth, List.range_succ]
theorem fwd1 (a w0 : Cq) : fwdF [a] [w0] = [a * w0] := rfl
theorem stage1 (a w0 : Cq) : stageF 0 [a] [w0] = [a] := rfl
theorem shares4 (a b c d : Cq) : sharesF [a, b, c, d] = [a * partQ 4, b * partQ 4, c * partQ 4, d * partQ 4] := rfl
theorem shares2 (a b : Cq) : sharesF [a, b] = [a * partQ 2, b * partQ 2] := rfl
theorem shares1 (a : Cq) : sharesF [a] = [a * partQ 1] := rfl
theorem part4 : (partQ 4).re = 1 / 4 ∧ (partQ 4).im = 0 := by decide +kernel
theorem part2 : (partQ 2).re = 1 / 2 ∧ (partQ 2).im = 0 := by decide +kernel
theorem part1 : (partQ 1).re = 1 ∧ (partQ 1).im = 0 := by decide +kernel
theorem list4 {a b c d a' b' c' d' : Cq} (h1 : a = a') (h2 : b = b') (h3 : c = c') (h4 : d = d') : [a, b, c, d] = [a', b', c', d'] := by rw [h1, h2, h3, h4]
theorem list2 {a b a' b' : Cq} (h1 : a = a') (h2 : b = b') : [a, b] = [a', b'] := by rw [h1, h2]
theorem list1 {a a' : Cq} (h1 : a = a') : [a] = [a'] := by rw [h1]
theorem four_of {zs : List Cq} (h : zs.length = 4) : ∃ a b c d, zs = [a, b, c, d] := by
  match zs, h with
  | [a, b, c, d], _ => exact ⟨a, b, c, d, rfl⟩
theorem two_of {zs : List Cq} (h : zs.length = 2) : ∃ a b, zs = [a, b] := by
  match zs, h with
  | [a, b], _ => exact ⟨a, b, rfl⟩
theorem one_of {zs : List Cq} (h : zs.length = 1) : ∃ a, zs = [a] := by
  match zs, h with
  | [a], _ => exact ⟨a, rfl⟩

/-- The factors of a length. -/
def onesF (m : Nat) : List Cq := if m = 0 then one1 else if m = 1 then one2 else one4
theorem fwd_stage {m : Nat} (hm : m ≤ 2) {zs : List Cq} (h : zs.length = 2 ^ m) : fwdF zs (onesF m) = stageF m zs (onesF m) := by
  have hm : m = 0 ∨ m = 1 ∨ m = 2 := by omega
  rcases hm with rfl | rfl | rfl
  · obtain ⟨a, rfl⟩ := one_of h
    show fwdF [a] one1 = stageF 0 [a] one1
    unfold one1; rw [fwd1, stage1]
    refine list1 (Cq.ext' ?_ ?_) <;> simp only [Cq.mul_re, Cq.mul_im] <;> grind
  · obtain ⟨a, b, rfl⟩ := two_of h
    show fwdF [a, b] one2 = stageF 1 [a, b] one2
    unfold one2; rw [fwd2, stage2]
    refine list2 (Cq.ext' ?_ ?_) (Cq.ext' ?_ ?_) <;> simp only [Cq.mul_re, Cq.mul_im, Cq.add_re, Cq.add_im, Cq.sub_re, Cq.sub_im] <;> grind
  · obtain ⟨a, b, c, d, rfl⟩ := four_of h
    show fwdF [a, b, c, d] one4 = stageF 2 [a, b, c, d] one4
    unfold one4; rw [fwd4, stage4]
    refine list4 (Cq.ext' ?_ ?_) (Cq.ext' ?_ ?_) (Cq.ext' ?_ ?_) (Cq.ext' ?_ ?_) <;> simp only [Cq.mul_re, Cq.mul_im, Cq.add_re, Cq.add_im, Cq.sub_re, Cq.sub_im] <;> grind
theorem fwd_stage_conj {m : Nat} (hm : m ≤ 2) {zs : List Cq} (h : zs.length = 2 ^ m) : fwdF zs (conjF (onesF m)) = stageF m zs (conjF (onesF m)) := by
  have hm : m = 0 ∨ m = 1 ∨ m = 2 := by omega
  rcases hm with rfl | rfl | rfl
  · obtain ⟨a, rfl⟩ := one_of h
    show fwdF [a] (conjF one1) = stageF 0 [a] (conjF one1)
    rw [conj1]; unfold one1; rw [fwd1, stage1]
    refine list1 (Cq.ext' ?_ ?_) <;> simp only [Cq.mul_re, Cq.mul_im] <;> grind
  · obtain ⟨a, b, rfl⟩ := two_of h
    show fwdF [a, b] (conjF one2) = stageF 1 [a, b] (conjF one2)
    rw [conj2]; unfold one2; rw [fwd2, stage2]
    refine list2 (Cq.ext' ?_ ?_) (Cq.ext' ?_ ?_) <;> simp only [Cq.mul_re, Cq.mul_im, Cq.add_re, Cq.add_im, Cq.sub_re, Cq.sub_im] <;> grind
  · obtain ⟨a, b, c, d, rfl⟩ := four_of h
    show fwdF [a, b, c, d] (conjF one4) = stageF 2 [a, b, c, d] (conjF one4)
    rw [conj4]; unfold one4c; rw [fwd4, stage4]
    refine list4 (Cq.ext' ?_ ?_) (Cq.ext' ?_ ?_) (Cq.ext' ?_ ?_) (Cq.ext' ?_ ?_) <;> simp only [Cq.mul_re, Cq.mul_im, Cq.add_re, Cq.add_im, Cq.sub_re, Cq.sub_im] <;> grind
/-- Back after forth. -/
theorem back_fwd {m : Nat} (hm : m ≤ 2) {zs : List Cq} (h : zs.length = 2 ^ m) : sharesF (stageF m (stageF m zs (onesF m)) (conjF (onesF m))) = zs := by
  have hm : m = 0 ∨ m = 1 ∨ m = 2 := by omega
  obtain ⟨q1, q2⟩ := part4
  obtain ⟨q3, q4⟩ := part2
  obtain ⟨q5, q6⟩ := part1
  rcases hm with rfl | rfl | rfl
  · obtain ⟨a, rfl⟩ := one_of h
    show sharesF (stageF 0 (stageF 0 [a] one1) (conjF one1)) = [a]
    rw [conj1]; unfold one1; rw [stage1, stage1, shares1]
    refine list1 (Cq.ext' ?_ ?_) <;> simp only [Cq.mul_re, Cq.mul_im, q5, q6] <;> grind
  · obtain ⟨a, b, rfl⟩ := two_of h
    show sharesF (stageF 1 (stageF 1 [a, b] one2) (conjF one2)) = [a, b]
    rw [conj2]; unfold one2; rw [stage2, stage2, shares2]
    refine list2 (Cq.ext' ?_ ?_) (Cq.ext' ?_ ?_) <;> simp only [Cq.mul_re, Cq.mul_im, Cq.add_re, Cq.add_im, Cq.sub_re, Cq.sub_im, q3, q4] <;> grind
  · obtain ⟨a, b, c, d, rfl⟩ := four_of h
    show sharesF (stageF 2 (stageF 2 [a, b, c, d] one4) (conjF one4)) = [a, b, c, d]
    rw [conj4]; unfold one4 one4c; rw [stage4, stage4, shares4]
    refine list4 (Cq.ext' ?_ ?_) (Cq.ext' ?_ ?_) (Cq.ext' ?_ ?_) (Cq.ext' ?_ ?_) <;> simp only [Cq.mul_re, Cq.mul_im, Cq.add_re, Cq.add_im, Cq.sub_re, Cq.sub_im, q1, q2] <;> grind
/-- Forth after back. -/
theorem fwd_back {m : Nat} (hm : m ≤ 2) {zs : List Cq} (h : zs.length = 2 ^ m) : stageF m (sharesF (stageF m zs (conjF (onesF m)))) (onesF m) = zs := by
  have hm : m = 0 ∨ m = 1 ∨ m = 2 := by omega
  obtain ⟨q1, q2⟩ := part4
  obtain ⟨q3, q4⟩ := part2
  obtain ⟨q5, q6⟩ := part1
  rcases hm with rfl | rfl | rfl
  · obtain ⟨a, rfl⟩ := one_of h
    show stageF 0 (sharesF (stageF 0 [a] (conjF one1))) one1 = [a]
    rw [conj1]; unfold one1; rw [stage1, shares1, stage1]
    refine list1 (Cq.ext' ?_ ?_) <;> simp only [Cq.mul_re, Cq.mul_im, q5, q6] <;> grind
  · obtain ⟨a, b, rfl⟩ := two_of h
    show stageF 1 (sharesF (stageF 1 [a, b] (conjF one2))) one2 = [a, b]
    rw [conj2]; unfold one2; rw [stage2, shares2, stage2]
    refine list2 (Cq.ext' ?_ ?_) (Cq.ext' ?_ ?_) <;> simp only [Cq.mul_re, Cq.mul_im, Cq.add_re, Cq.add_im, Cq.sub_re, Cq.sub_im, q3, q4] <;> grind
  · obtain ⟨a, b, c, d, rfl⟩ := four_of h
    show stageF 2 (sharesF (stageF 2 [a, b, c, d] (conjF one4))) one4 = [a, b, c, d]
    rw [conj4]; unfold one4 one4c; rw [stage4, shares4, stage4]
    refine list4 (Cq.ext' ?_ ?_) (Cq.ext' ?_ ?_) (Cq.ext' ?_ ?_) (Cq.ext' ?_ ?_) <;> simp only [Cq.mul_re, Cq.mul_im, Cq.add_re, Cq.add_im, Cq.sub_re, Cq.sub_im, q1, q2] <;> grind
end Go.Vc
