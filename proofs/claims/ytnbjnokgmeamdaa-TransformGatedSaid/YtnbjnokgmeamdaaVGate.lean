/- The plain laws of gates. No program in sight. -/
import Derived.Test.YtnbjnokgmeamdaaVFour
namespace Go.Vc
open Go

/-- How far a position lies behind a gate's start, around. -/
def gpos (n f i : Nat) : Nat := if f ≤ i then i - f else i + n - f
/-- Is a position in the gate? -/
def inG (n f c i : Nat) : Bool := decide (gpos n f i < c)
theorem gpos_lt {n f i : Nat} (hf : f < n) (hi : i < n) : gpos n f i < n := by unfold gpos; split <;> omega
theorem gpos_inj {n f i j : Nat} (hf : f < n) (hi : i < n) (hj : j < n) : gpos n f i = j ↔ i = (f + j) % n := by
  have e : (f + j) % n = if f + j < n then f + j else f + j - n := by
    split
    · exact Nat.mod_eq_of_lt (by omega)
    · rw [Nat.mod_eq_sub_mod (by omega), Nat.mod_eq_of_lt (by omega)]
  rw [e]; unfold gpos
  split <;> split <;> omega
def gList (n f c : Nat) : List Bool := (List.range n).map (inG n f c)
theorem gList_zero (n f : Nat) : gList n f 0 = List.replicate n false := by
  apply List.ext_getElem (by simp [gList])
  intro i h1 h2
  simp [gList, inG]
theorem gList_set {n f j : Nat} (hf : f < n) (hj : j < n) : (gList n f j).set ((f + j) % n) true = gList n f (j + 1) := by
  apply List.ext_getElem (by simp [gList])
  intro i h1 h2
  have hi : i < n := by simpa [gList] using h2
  simp only [gList, List.getElem_set, List.getElem_map, List.getElem_range, inG]
  by_cases e : (f + j) % n = i
  · have : gpos n f i = j := (gpos_inj hf hi hj).2 e.symm
    rw [if_pos e, this]; simp
  · have : gpos n f i ≠ j := fun h => e ((gpos_inj hf hi hj).1 h).symm
    rw [if_neg e]
    congr 1
    have : (gpos n f i < j) ↔ (gpos n f i < j + 1) := by omega
    exact propext this
/-- The rest of a gate has the other positions. -/
theorem inG_rest {n f c i : Nat} (hf : f < n) (hc : c ≤ n) (hi : i < n) : inG n ((f + c) % n) (n - c) i = !inG n f c i := by
  have e : (f + c) % n = if f + c < n then f + c else f + c - n := by
    split
    · exact Nat.mod_eq_of_lt (by omega)
    · rw [Nat.mod_eq_sub_mod (by omega)]
      by_cases h : f + c - n < n
      · exact Nat.mod_eq_of_lt h
      · omega
  rw [e]
  rw [Bool.eq_iff_iff]
  simp only [inG, decide_eq_true_eq, Bool.not_eq_true', decide_eq_false_iff_not]
  unfold gpos
  split <;> split <;> split <;> omega
theorem inG_all {n f i : Nat} (hf : f < n) (hi : i < n) : inG n f n i = true := decide_eq_true (gpos_lt hf hi)

def cutF (zs : List Cq) (B : Nat → Bool) : List Cq := (List.range zs.length).map fun k => if B k = true then nth zs k else Cq.zero
theorem cutF_length (zs : List Cq) (B : Nat → Bool) : (cutF zs B).length = zs.length := by simp [cutF]
theorem cutF_nth {zs : List Cq} {B : Nat → Bool} {i : Nat} (h : i < zs.length) : nth (cutF zs B) i = if B i = true then nth zs i else Cq.zero := nth_map h _
theorem cutF_sz (zs : List Cq) (B : Nat → Bool) (S : Nat) (h1 : 1 ≤ S) (hS : ∀ i, i < zs.length → (nth zs i).sz ≤ S) : ∀ i, i < zs.length → (nth (cutF zs B) i).sz ≤ S := by
  intro i hi
  rw [cutF_nth hi]
  split
  · exact hS i hi
  · have := Cq.sz_zero; omega
theorem cutF_all {zs : List Cq} {B : Nat → Bool} (h : ∀ i, i < zs.length → B i = true) : cutF zs B = zs := by
  have := list_of_nth zs
  conv => rhs; rw [← this]
  apply List.map_congr_left
  intro i hi
  rw [if_pos (h i (by simpa using hi))]
theorem cutF_twice (zs : List Cq) (B : Nat → Bool) : cutF (cutF zs B) B = cutF zs B := by
  unfold cutF
  simp only [List.length_map, List.length_range]
  apply List.map_congr_left
  intro i hi
  split
  · rename_i h
    rw [nth_map (by simpa using hi), if_pos h]
  · rfl
def plusF (a b : List Cq) : List Cq := (List.range a.length).map fun i => nth a i + nth b (i % b.length)
theorem add_zero (z : Cq) : z + Cq.zero = z := Cq.ext' (by rw [Cq.add_re]; show z.re + 0 = z.re; grind) (by rw [Cq.add_im]; show z.im + 0 = z.im; grind)
theorem zero_add (z : Cq) : Cq.zero + z = z := Cq.ext' (by rw [Cq.add_re]; show 0 + z.re = z.re; grind) (by rw [Cq.add_im]; show 0 + z.im = z.im; grind)
theorem cutF_rest (zs : List Cq) (B B' : Nat → Bool) (h : ∀ i, i < zs.length → B' i = !B i) : plusF (cutF zs B) (cutF zs B') = zs := by
  unfold plusF
  rw [cutF_length, cutF_length]
  have := list_of_nth zs
  conv => rhs; rw [← this]
  apply List.map_congr_left
  intro i hi
  have hi : i < zs.length := by simpa using hi
  rw [Nat.mod_eq_of_lt hi, cutF_nth hi, cutF_nth hi, h i hi]
  cases B i
  · exact zero_add _
  · exact add_zero _
theorem plusF_length (a b : List Cq) : (plusF a b).length = a.length := by simp [plusF]
/-- The transform of a sum. -/
theorem stage_plus {m : Nat} (hm : m ≤ 2) {xs ys : List Cq} (hx : xs.length = 2 ^ m) (hy : ys.length = 2 ^ m) :
    stageF m (plusF xs ys) (onesF m) = plusF (stageF m xs (onesF m)) (stageF m ys (onesF m)) := by
  have hm : m = 0 ∨ m = 1 ∨ m = 2 := by omega
  rcases hm with rfl | rfl | rfl
  · obtain ⟨a, rfl⟩ := one_of hx
    obtain ⟨a', rfl⟩ := one_of hy
    rfl
  · obtain ⟨a, b, rfl⟩ := two_of hx
    obtain ⟨a', b', rfl⟩ := two_of hy
    show stageF 1 [a + a', b + b'] one2 = plusF (stageF 1 [a, b] one2) (stageF 1 [a', b'] one2)
    unfold one2; rw [stage2, stage2, stage2]
    refine list2 (Cq.ext' ?_ ?_) (Cq.ext' ?_ ?_) <;> simp [nth, Cq.mul_re, Cq.mul_im, Cq.add_re, Cq.add_im, Cq.sub_re, Cq.sub_im] <;> grind
  · obtain ⟨a, b, c, d, rfl⟩ := four_of hx
    obtain ⟨a', b', c', d', rfl⟩ := four_of hy
    show stageF 2 [a + a', b + b', c + c', d + d'] one4 = plusF (stageF 2 [a, b, c, d] one4) (stageF 2 [a', b', c', d'] one4)
    unfold one4; rw [stage4, stage4, stage4]
    refine list4 (Cq.ext' ?_ ?_) (Cq.ext' ?_ ?_) (Cq.ext' ?_ ?_) (Cq.ext' ?_ ?_) <;> simp [nth, Cq.mul_re, Cq.mul_im, Cq.add_re, Cq.add_im, Cq.sub_re, Cq.sub_im] <;> grind
end Go.Vc
