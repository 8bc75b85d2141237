/- Words by place, and the arithmetic of division by words. No program in sight. -/
import Derived.Test.YtnbjnokgmeamdaaVNat
namespace Go.Vc
open Go Go.RowKit

/-- The value of words that are given by place. -/
def ws (f : Nat → Nat) : Nat → Nat
  | 0 => 0
  | n + 1 => ws f n + f n * 4294967296 ^ n
theorem ws_congr {f g : Nat → Nat} {n : Nat} (h : ∀ i, i < n → f i = g i) : ws f n = ws g n := by
  induction n with
  | zero => rfl
  | succ n ih => simp only [ws]; rw [ih (fun i hi => h i (by omega)), h n (by omega)]
theorem ws_take (l : List Nat) (n : Nat) : ws (fun i => l.getD i 0) n = wval (l.take n) := by
  induction n with
  | zero => simp [ws, wval]
  | succ n ih => rw [wval_take_succ, ← ih]; rfl
theorem ws_lt {f : Nat → Nat} {n : Nat} (h : ∀ i, i < n → f i < 4294967296) : ws f n < 4294967296 ^ n := by
  induction n with
  | zero => simp [ws]
  | succ n ih =>
    have h1 := ih (fun i hi => h i (by omega))
    have h2 := Nat.mul_le_mul_right (4294967296 ^ n) (Nat.succ_le_of_lt (h n (by omega)))
    simp only [ws, Nat.pow_succ]
    rw [Nat.succ_mul] at h2
    omega
theorem ws_add (f : Nat → Nat) (m n : Nat) : ws f (m + n) = ws f m + 4294967296 ^ m * ws (fun i => f (m + i)) n := by
  induction n with
  | zero => simp [ws]
  | succ n ih =>
    show ws f (m + n) + f (m + n) * 4294967296 ^ (m + n) = _
    rw [ih]; simp only [ws, Nat.pow_add, Nat.mul_add]; grind
/-- The value of the words from a place on, so many of them. -/
def seg (l : List Nat) (j k : Nat) : Nat := ws (fun i => l.getD (j + i) 0) k
theorem seg_zero (l : List Nat) (j : Nat) : seg l j 0 = 0 := rfl
theorem seg_succ (l : List Nat) (j k : Nat) : seg l j (k + 1) = seg l j k + l.getD (j + k) 0 * 4294967296 ^ k := rfl
theorem seg_take (l : List Nat) (k : Nat) : seg l 0 k = wval (l.take k) := by
  unfold seg; simp only [Nat.zero_add]; exact ws_take l k
theorem seg_all {l : List Nat} {k : Nat} (h : l.length ≤ k) : seg l 0 k = wval l := by rw [seg_take, wval_take_all h]
theorem seg_split (l : List Nat) (j m n : Nat) : seg l j (m + n) = seg l j m + 4294967296 ^ m * seg l (j + m) n := by
  unfold seg; rw [ws_add]
  congr 2
  exact ws_congr fun i _ => by rw [Nat.add_assoc]
theorem seg_lt {l : List Nat} (h : WB l) (j k : Nat) : seg l j k < 4294967296 ^ k := ws_lt fun i _ => h.getD _
theorem getD_set (l : List Nat) (p d i : Nat) : (l.set p d).getD i 0 = if i = p ∧ p < l.length then d else l.getD i 0 := by
  simp only [List.getD, List.getElem?_set]
  by_cases e : p = i
  · subst e
    by_cases h : p < l.length
    · simp [h]
    · simp [h, List.getElem?_eq_none (Nat.le_of_not_lt h)]
  · have e' : ¬ i = p := fun x => e x.symm
    simp [e, e']
theorem seg_set_out {l : List Nat} {p d j k : Nat} (h : p < j ∨ j + k ≤ p) : seg (l.set p d) j k = seg l j k := by
  refine ws_congr fun i hi => ?_
  rw [getD_set, if_neg (by omega)]
theorem seg_set_last {l : List Nat} {p d j k : Nat} (hp : p = j + k) (hl : p < l.length) : seg (l.set p d) j (k + 1) = seg l j k + d * 4294967296 ^ k := by
  rw [seg_succ, seg_set_out (by omega), getD_set, if_pos (by omega)]
theorem seg_set {l : List Nat} {p d j k : Nat} (h1 : j ≤ p) (h2 : p < j + k) (hl : p < l.length) : seg (l.set p d) j k + l.getD p 0 * 4294967296 ^ (p - j) = seg l j k + d * 4294967296 ^ (p - j) := by
  induction k with
  | zero => omega
  | succ k ih =>
    rcases Nat.lt_or_ge p (j + k) with h | h
    · have := ih h
      rw [seg_succ, seg_succ, getD_set, if_neg (by omega)]; omega
    · have e : p = j + k := by omega
      rw [seg_set_last e hl, seg_succ, show p - j = k by omega, ← e]; omega
theorem seg_rep (n j k : Nat) : seg (List.replicate n 0) j k = 0 := by
  induction k with
  | zero => rfl
  | succ k ih =>
    rw [seg_succ, ih]
    have : (List.replicate n 0).getD (j + k) 0 = 0 := by
      simp only [List.getD, List.getElem?_replicate]; split <;> rfl
    rw [this]; simp
theorem seg_zeros {l : List Nat} {j k : Nat} (h : ∀ i, j ≤ i → l.getD i 0 = 0) : seg l j k = 0 := by
  induction k with
  | zero => rfl
  | succ k ih => rw [seg_succ, ih, h _ (by omega)]; simp

/-- A guess that is too great is put down, and still is not too small. -/
theorem guess_ge {B v1 v2 P V W guess rest top u0 q : Nat} (hV : (v1 * B + v2) * P ≤ V) (hW : W < (top * B + u0 + 1) * P) (hq : q * V ≤ W)
    (hg : guess * v1 + rest = top) (hc : rest * B + u0 < guess * v2) : q < guess := by
  rcases Nat.lt_or_ge q guess with h | h
  · exact h
  · exfalso
    have h1 : top * B + u0 + 1 ≤ guess * (v1 * B + v2) := by
      subst hg
      have : guess * (v1 * B + v2) = guess * v1 * B + guess * v2 := by grind
      have h2 : (guess * v1 + rest) * B = guess * v1 * B + rest * B := by grind
      omega
    have h3 := Nat.mul_le_mul_right P h1
    have h4 : guess * (v1 * B + v2) * P ≤ guess * V := by
      have := Nat.mul_le_mul_left guess hV
      have e : guess * ((v1 * B + v2) * P) = guess * (v1 * B + v2) * P := by grind
      omega
    have h5 := Nat.mul_le_mul_right V h
    omega
/-- A guess that passes the test is too great by one at most. -/
theorem guess_le {B v1 v2 P V W guess rest top u0 : Nat} (hV : V ≤ (v1 * B + v2 + 1) * P) (hW : (top * B + u0) * P ≤ W)
    (hg : guess * v1 + rest = top) (hc : guess * v2 ≤ rest * B + u0) (hB : guess ≤ v1 * B + v2 + 1) : (guess - 1) * V ≤ W := by
  rcases Nat.eq_zero_or_pos guess with h0 | h0
  · subst h0; simp
  obtain ⟨g, rfl⟩ : ∃ g, guess = g + 1 := ⟨guess - 1, by omega⟩
  simp only [Nat.add_sub_cancel]
  have h1 : (g + 1) * (v1 * B + v2) ≤ top * B + u0 := by
    subst hg
    have : (g + 1) * (v1 * B + v2) = (g + 1) * v1 * B + (g + 1) * v2 := by grind
    have h2 : ((g + 1) * v1 + rest) * B = (g + 1) * v1 * B + rest * B := by grind
    omega
  have h2 : g * (v1 * B + v2 + 1) ≤ (g + 1) * (v1 * B + v2) := by
    have : g * (v1 * B + v2 + 1) = g * (v1 * B + v2) + g := by grind
    have h3 : (g + 1) * (v1 * B + v2) = g * (v1 * B + v2) + (v1 * B + v2) := by grind
    omega
  have h3 := Nat.mul_le_mul_left g hV
  have h4 := Nat.mul_le_mul_right P (Nat.le_trans h2 h1)
  have e : g * ((v1 * B + v2 + 1) * P) = g * (v1 * B + v2 + 1) * P := by grind
  omega
end Go.Vc
