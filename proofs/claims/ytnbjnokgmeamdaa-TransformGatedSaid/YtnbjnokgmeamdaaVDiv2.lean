/- Division by words: one word of the quotient. No program in sight. -/
import Derived.Test.YtnbjnokgmeamdaaVBit
namespace Go.Vc
open Go

/-- What is known where one word of a quotient is guessed. -/
structure Guess (P vN v1 v2 u2 u1 u0 W : Nat) : Prop where
  h1 : v1 < 4294967296
  h2 : v2 < 4294967296
  pos : 0 < v1
  k2 : u2 ≤ v1
  k1 : u1 < 4294967296
  k0 : u0 < 4294967296
  vlo : (v1 * 4294967296 + v2) * P ≤ vN
  vhi : vN ≤ (v1 * 4294967296 + v2 + 1) * P
  wlo : ((u2 * 4294967296 + u1) * 4294967296 + u0) * P ≤ W
  whi : W < ((u2 * 4294967296 + u1) * 4294967296 + u0 + 1) * P
  lt : W < 4294967296 * vN

theorem Guess.big {P vN v1 v2 u2 u1 u0 W : Nat} (h : Guess P vN v1 v2 u2 u1 u0 W) {q : Nat} (hq : q * vN ≤ W) : q * (v1 * 4294967296 + v2) < (u2 * 4294967296 + u1) * 4294967296 + u0 + 1 := by
  rcases Nat.lt_or_ge (q * (v1 * 4294967296 + v2)) ((u2 * 4294967296 + u1) * 4294967296 + u0 + 1) with h1 | h1
  · exact h1
  · exfalso
    have h2 := Nat.mul_le_mul_right P h1
    have h3 := Nat.mul_le_mul_left q h.vlo
    rw [← Nat.mul_assoc] at h3
    have := h.whi
    omega
theorem Guess.init {P vN v1 v2 u2 u1 u0 W : Nat} (h : Guess P vN v1 v2 u2 u1 u0 W) : W / vN ≤ (u2 * 4294967296 + u1) / v1 := by
  rw [Nat.le_div_iff_mul_le h.pos]
  have h1 := h.big (Nat.div_mul_le_self W vN)
  generalize W / vN = q at *
  have hu0 := h.k0
  have e : q * (v1 * 4294967296 + v2) = q * v1 * 4294967296 + q * v2 := by rw [Nat.mul_add, Nat.mul_assoc]
  rw [e] at h1
  omega
theorem Guess.quo {P vN v1 v2 u2 u1 u0 W : Nat} (h : Guess P vN v1 v2 u2 u1 u0 W) : W / vN < 4294967296 := by
  have := h.lt
  rw [Nat.div_lt_iff_lt_mul]
  · exact this
  · rcases Nat.eq_zero_or_pos vN with h0 | h0
    · subst h0; omega
    · exact h0
theorem Guess.dec {P vN v1 v2 u2 u1 u0 W g r : Nat} (h : Guess P vN v1 v2 u2 u1 u0 W) (hg : g * v1 + r = u2 * 4294967296 + u1) (hc : r * 4294967296 + u0 < g * v2) : W / vN < g := by
  have h1 := h.big (Nat.div_mul_le_self W vN)
  generalize W / vN = q at *
  rcases Nat.lt_or_ge q g with h2 | h2
  · exact h2
  · exfalso
    have h3 := Nat.mul_le_mul_right (v1 * 4294967296 + v2) h2
    have e : g * (v1 * 4294967296 + v2) = g * v1 * 4294967296 + g * v2 := by rw [Nat.mul_add, Nat.mul_assoc]
    omega
theorem Guess.exit {P vN v1 v2 u2 u1 u0 W g r : Nat} (h : Guess P vN v1 v2 u2 u1 u0 W) (hg : g * v1 + r = u2 * 4294967296 + u1) (hB : g < 4294967296) (hc : g * v2 ≤ r * 4294967296 + u0) : (g - 1) * vN ≤ W := by
  have := h.pos
  exact guess_le h.vhi h.wlo hg hc (by omega)
theorem Guess.brk {P vN v1 v2 u2 u1 u0 W g r : Nat} (h : Guess P vN v1 v2 u2 u1 u0 W) (hg : g * v1 + r = u2 * 4294967296 + u1) (h0 : 0 < g) (hr : 4294967296 ≤ r + v1) : g - 1 < 4294967296 ∧ (g - 1 - 1) * vN ≤ W := by
  obtain ⟨g, rfl⟩ : ∃ k, g = k + 1 := ⟨g - 1, by omega⟩
  simp only [Nat.add_sub_cancel]
  have hg' : g * v1 + (r + v1) = u2 * 4294967296 + u1 := by rw [Nat.succ_mul] at hg; omega
  have hB : g < 4294967296 := by
    rcases Nat.lt_or_ge g 4294967296 with h1 | h1
    · exact h1
    · exfalso
      have h2 := Nat.mul_le_mul_right v1 h1
      have := h.k2
      have := h.k1
      omega
  refine ⟨hB, h.exit hg' hB ?_⟩
  have := Nat.mul_le_mul (Nat.le_of_lt hB) (Nat.le_of_lt h.h2)
  have h3 := Nat.mul_le_mul_right 4294967296 hr
  omega

/-- Above a word. -/
theorem seg_three (l : List Nat) (j k : Nat) : seg l j (k + 1 + 1 + 1) = seg l j k + ((l.getD (j + k + 2) 0 * 4294967296 + l.getD (j + k + 1) 0) * 4294967296 + l.getD (j + k) 0) * 4294967296 ^ k := by
  rw [seg_succ, seg_succ, seg_succ, Nat.pow_succ, Nat.pow_succ, Nat.pow_succ, show j + (k + 1 + 1) = j + k + 2 by omega, show j + (k + 1) = j + k + 1 by omega]
  grind
theorem seg_two (l : List Nat) (j k : Nat) : seg l j (k + 1 + 1) = seg l j k + (l.getD (j + k + 1) 0 * 4294967296 + l.getD (j + k) 0) * 4294967296 ^ k := by
  rw [seg_succ, seg_succ, Nat.pow_succ, show j + (k + 1) = j + k + 1 by omega]
  grind
theorem seg_dig (n : Nat) {k : Nat} (h : wn n ≤ k) : seg (dig n) 0 k = n := by rw [seg_all h, wval_dig]

theorem guess_of {n vN j : Nat} {u : List Nat} (hu : WB u) (hn : 2 ≤ n) (hv : wn vN = n) (hc : seg u (j + 1) n < vN) :
    Guess (4294967296 ^ (n - 2)) vN ((dig vN).getD (n - 1) 0) ((dig vN).getD (n - 2) 0) (u.getD (j + n) 0) (u.getD (j + n - 1) 0) (u.getD (j + n - 2) 0) (seg u j (n + 1)) := by
  obtain ⟨k, rfl⟩ : ∃ k, n = k + 2 := ⟨n - 2, by omega⟩
  have e1 : k + 2 - 1 = k + 1 := rfl
  have e2 : k + 2 - 2 = k := rfl
  have e3 : j + (k + 2) = j + k + 2 := rfl
  have e4 : j + k + 2 - 1 = j + k + 1 := rfl
  have e5 : j + k + 2 - 2 = j + k := rfl
  rw [e1, e2, e3, e4, e5]
  have hw := WB_dig vN
  have hvs := seg_dig vN (Nat.le_of_eq hv)
  rw [seg_two, Nat.zero_add] at hvs
  have b1 := seg_lt hw 0 k
  have b2 := seg_lt hu j k
  have hP : 0 < 4294967296 ^ k := Nat.pow_pos (by omega)
  have top := seg_succ u (j + 1) (k + 1)
  rw [show j + 1 + (k + 1) = j + k + 2 by omega] at top
  have hw1 : seg u j (k + 2 + 1) = u.getD j 0 + 4294967296 * seg u (j + 1) (k + 2) := by
    rw [show k + 2 + 1 = 1 + (k + 2) by omega, seg_split, seg_succ, seg_zero]; simp
  have b3 := hu.getD j
  refine ⟨hw.getD _, hw.getD _, ?_, ?_, hu.getD _, hu.getD _, by omega, by rw [Nat.succ_mul]; omega, ?_, ?_, by rw [hw1]; omega⟩
  · rcases Nat.eq_zero_or_pos ((dig vN).getD (k + 1) 0) with h0 | h0
    · exfalso
      have hl : wn vN = k + 2 := hv
      have h1 : vN ≠ 0 := by rintro rfl; rw [wn_zero] at hl; omega
      have h2 : (dig vN).getLast? = some ((dig vN).getD (k + 1) 0) := by
        rw [List.getLast?_eq_getElem?]
        simp only [wn] at hl
        simp only [List.getD]
        rw [hl, show k + 2 - 1 = k + 1 by omega, List.getElem?_eq_getElem (by omega)]; rfl
      exact dig_last h2 h0
    · exact h0
  · -- the top word
    rcases Nat.lt_or_ge ((dig vN).getD (k + 1) 0) (u.getD (j + k + 2) 0) with h0 | h0
    · exfalso
      have h1 := Nat.mul_le_mul_right (4294967296 ^ (k + 1)) (Nat.succ_le_of_lt h0)
      rw [Nat.succ_mul, Nat.pow_succ] at h1
      rw [show k + 1 + 1 = k + 2 by omega, Nat.pow_succ] at top
      have h2 := hw.getD k
      have h3 := Nat.mul_le_mul_right (4294967296 ^ k) (Nat.succ_le_of_lt h2)
      rw [Nat.succ_mul] at h3
      have e6 : ∀ z, z * (4294967296 ^ k * 4294967296) = z * 4294967296 * 4294967296 ^ k := by intro z; grind
      simp only [e6] at h1 top
      rw [Nat.add_mul] at hvs
      omega
    · exact h0
  · rw [show k + 2 + 1 = k + 1 + 1 + 1 by omega, seg_three]; omega
  · rw [show k + 2 + 1 = k + 1 + 1 + 1 by omega, seg_three, Nat.succ_mul]; omega

theorem setL_app {α : Type} (l : List α) (off : Nat) (vs : List α) (h : off + vs.length ≤ l.length) : setL l off vs = l.take off ++ vs ++ l.drop (off + vs.length) := by
  induction vs generalizing l off with
  | nil => simp [setL]
  | cons v vs ih =>
    simp only [List.length_cons] at h
    rw [setL, ih _ _ (by simp; omega)]
    apply List.ext_getElem?
    intro i
    simp only [List.getElem?_append, List.getElem?_take, List.getElem?_drop, List.getElem?_set, List.length_append, List.length_take, List.length_set, List.length_cons, List.getElem?_cons]
    have e1 : min (off + 1) l.length = off + 1 := by omega
    have e2 : min off l.length = off := by omega
    rw [e1, e2]
    by_cases c1 : i < off
    · have c2 : ¬ off = i := by omega
      simp [c1, c2, show i < off + 1 + vs.length by omega, show i < off + 1 by omega, show i < off + (vs.length + 1) by omega]
    · by_cases c2 : i = off
      · subst c2
        simp [show i < i + 1 + vs.length by omega, show i < l.length by omega]
      · have c3 : ¬ off = i := fun x => c2 x.symm
        have c4 : ¬ i < off + 1 := by omega
        have c5 : i - off ≠ 0 := by omega
        simp only [c1, c4, if_false, c3]
        by_cases c6 : i < off + 1 + vs.length
        · simp [c6, show i < off + (vs.length + 1) by omega, c5, show i - off - 1 = i - (off + 1) by omega]
        · simp only [c6, show ¬ i < off + (vs.length + 1) by omega, if_false]
          rw [if_neg (by omega)]
          congr 1; omega
theorem setL_wv (n : Nat) (d : List Nat) (h : d.length ≤ n) : setL (wv (List.replicate n 0)) 0 (wv d) = wv (d ++ List.replicate (n - d.length) 0) := by
  rw [setL_app _ _ _ (by simp [wv]; omega)]
  simp [wv]
theorem wval_pad (d : List Nat) (n : Nat) : wval (d ++ List.replicate n 0) = wval d := by rw [wval_append, wval_zeros]; simp

end Go.Vc
