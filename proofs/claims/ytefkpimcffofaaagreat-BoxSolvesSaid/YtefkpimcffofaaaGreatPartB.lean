/- Part. -/
import Derived.Test.YtefkpimcffofaaaGreatPartA
namespace Go.Vc
open Go
def Inc (n w : Nat) (C : Nat → Nat → Bk) (B : Nat → Nat → Cq) : Prop := ∀ i j, i < n → j < w → (C i j).has (B i j) = true
theorem c0x {b : Bk} {z : Cq} (h : b.has z = true) (hc : boxO.clr b = true) : z ≠ Cq.zero := by
 intro e
 subst e
 have hc : (!b.has Cq.zero) = true := hc
 rw [h] at hc; simp at hc
theorem B0h {b c : Bk} {z w : Cq} (h : b.has z = true) (k : c.has w = true) (hc : boxO.clr c = true) : (boxO.div b c).has (z.div w) = true := by
 have hc : c.clear = true := hc
 have e : boxO.div b c = b.mul c.inv := by
  show (if c.invE = 0 then b.mul c.inv else Bk.nil) = _
  unfold Bk.invE; rw [hc]; rfl
 rw [e]; exact M0v h k hc
theorem Inc.pivot {n w c p : Nat} {C : Nat → Nat → Bk} {B : Nat → Nat → Cq} (h : Inc n w C B) (hc : c < n) (hp : p < n) : Inc n w (d05 C c p) (d05 B c p) := by
 intro i j hi hj
 unfold d05
 by_cases e : p = c
 · rw [if_pos e, if_pos e]; exact h i j hi hj
 · rw [if_neg e, if_neg e]
   unfold o08
   by_cases e1 : i = c
   · rw [if_pos e1, if_pos e1]; exact h p j hp hj
   · rw [if_neg e1, if_neg e1]
     by_cases e2 : i = p
     · rw [if_pos e2, if_pos e2]; exact h c j hc hj
     · rw [if_neg e2, if_neg e2]; exact h i j hi hj
theorem Inc.col {n w c : Nat} {C : Nat → Nat → Bk} {B : Nat → Nat → Cq} (h : Inc n w C B) (hc : c < n) (hw : n ≤ w) (hcl : boxO.clr (C c c) = true) : Inc n w (colF boxO w C c n) (colF numO w B c n) := by
 intro i j hi hj
 unfold colF
 by_cases e : c < i ∧ i < n ∧ c < j ∧ j < w
 · rw [if_pos e, if_pos e]
   exact T0r (h i j hi hj) (Y0i (B0h (h i c hi (by omega)) (h c c hc (by omega)) hcl) (h c j hc hj))
 · rw [if_neg e, if_neg e]; exact h i j hi hj
theorem Z0i {n w : Nat} (hn : n ≤ 3) (hw : n ≤ w) (A : Nat → Nat → Cq) : ∀ (k c : Nat) (C : Nat → Nat → Bk) (B : Nat → Nat → Cq) (s : Nat), k + c = n → Inc n w C B → i07 n w c A B → N07 n c s A B →
 (match (O03 boxO n w k c C s).2.2 with
 | none => ∃ B', Inc n w (O03 boxO n w k c C s).1 B' ∧ i07 n w n A B' ∧ N07 n n (O03 boxO n w k c C s).2.1 A B'
 | some c' => ∃ B', c' < n ∧ Inc n w (O03 boxO n w k c C s).1 B' ∧ N07 n c' (O03 boxO n w k c C s).2.1 A B')
 | 0, c, C, B, s, hk, hI, hS, hD => by
   have : c = n := by omega
   subst this; exact ⟨B, hI, hS, hD⟩
 | k + 1, c, C, B, s, hk, hI, hS, hD => by
   obtain ⟨p1, p2, p3, p4⟩ := k06 boxO C (c := c) (n := n) (by omega)
   rw [O03]
   by_cases hp : pivF boxO C c n = n
   · rw [if_pos hp]
     exact ⟨B, by omega, hI, hD⟩
   · rw [if_neg hp]
     have hcl := p4 (by omega)
     have hne := c0x (hI _ c (by omega) (by omega)) hcl
     exact Z0i hn hw A k (c + 1) _ _ _ (by omega) ((hI.pivot (by omega) (by omega)).col (by omega) hw (by rw [s0c]; exact hcl)) (hS.step p1 (by omega) hw hne) (hD.step hn p1 (by omega) hw hne)
theorem Y0k {n c : Nat} {C : Nat → Nat → Bk} {B : Nat → Nat → Cq} {x : Nat → Bk} {y : Nat → Cq} (h : Inc n (n + 1) C B) (hc : c < n) : ∀ j, c + 1 + j ≤ n → (∀ k, c < k → k < c + 1 + j → (x k).has (y k) = true) → (q0c boxO C x c n j).has (q0c numO B y c n j) = true
 | 0, _, _ => h c n hc (by omega)
 | j + 1, hj, hx => T0r (Y0k h hc j (by omega) (fun k h1 h2 => hx k h1 (by omega))) (Y0i (h c _ hc (by omega)) (hx _ (by omega) (by omega)))
theorem I0n {n : Nat} {C : Nat → Nat → Bk} {B : Nat → Nat → Cq} (h : Inc n (n + 1) C B) (hd : ∀ i, i < n → boxO.clr (C i i) = true) : ∀ j, j ≤ n → ∀ i, n - j ≤ i → i < n → (t04 boxO Bk.nil C n j i).has (t04 numO Cq.zero B n j i) = true
 | 0, _, i, h1, h2 => by omega
 | j + 1, hj, i, h1, h2 => by
   have ih := I0n h hd j (by omega)
   simp only [t04]
   by_cases e : i = n - (j + 1)
   · rw [if_pos e, if_pos e]
     exact B0h (Y0k h (by omega) j (by omega) (fun k g1 g2 => ih k (by omega) (by omega))) (h _ _ (by omega) (by omega)) (hd _ (by omega))
   · rw [if_neg e, if_neg e]; exact ih i (by omega) h2
theorem J0n {n w : Nat} {C : Nat → Nat → Bk} {B : Nat → Nat → Cq} (h : Inc n w C B) (hw : n ≤ w) : ∀ j, j < n → (p08 boxO C j).has (p08 numO B j) = true
 | 0, hj => h 0 0 hj (by omega)
 | j + 1, hj => Y0i (J0n h hw j (by omega)) (h _ _ hj (by omega))
theorem U0r {n : Nat} (hn : n ≤ 3) {C : Nat → Nat → Bk} {A : Nat → Nat → Cq} (h : Inc n (n + 1) C A) (hs : (elim boxO n (n + 1) C).2.2 = none) :
 (elim numO n (n + 1) A).2.2 = none ∧ ∀ i, i < n → (t04 boxO Bk.nil (elim boxO n (n + 1) C).1 n n i).has (t04 numO Cq.zero (elim numO n (n + 1) A).1 n n i) = true := by
 have := Z0i hn (by omega : n ≤ n + 1) A n 0 C A 0 (by omega) h (i07.start n (n + 1) A) (N07.start n A)
 unfold elim at hs
 rw [hs] at this
 obtain ⟨B', hI, hS, _⟩ := this
 have hu := hS.unique Cq.zero
 have hsys : Sys n A (t04 numO Cq.zero B' n n) := (hu _).2 fun i _ => rfl
 have hnone : (elim numO n (n + 1) A).2.2 = none := A0r hsys fun y hy => (hu y).1 hy
 refine ⟨hnone, fun i hi => ?_⟩
 have he := (F0m hnone Cq.zero _).1 hsys i hi
 rw [← he]
 have hd := M0a boxO n (n + 1) n 0 C 0 (by omega) (fun i hi => absurd hi (by omega)) hs
 exact I0n hI hd n (Nat.le_refl n) i (by omega) hi
theorem N0v {n : Nat} (hn : n ≤ 3) {C : Nat → Nat → Bk} {A : Nat → Nat → Cq} (h : Inc n n C A) :
 match (elim boxO n n C).2.2 with
 | none => 0 < n → (if (elim boxO n n C).2.1 % 2 = 1 then (p08 boxO (elim boxO n n C).1 (n - 1)).neg else p08 boxO (elim boxO n n C).1 (n - 1)).has (detN n A) = true
 | some c => c < n ∧ ((∀ i, c ≤ i → i < n → ∀ z, ((elim boxO n n C).1 i c).has z = true → z = Cq.zero) → detN n A = Cq.zero) := by
 have := Z0i hn (Nat.le_refl n) A n 0 C A 0 (by omega) h (i07.start n n A) (N07.start n A)
 rw [z0v hn]
 unfold elim
 cases e : (O03 boxO n n n 0 C 0).2.2 with
 | none =>
   rw [e] at this
   obtain ⟨B', hI, _, hD⟩ := this
   intro h0
   rw [← hD.diag hn h0]
   have hd := J0n hI (Nat.le_refl n) (n - 1) (by omega)
   by_cases g : (O03 boxO n n n 0 C 0).2.1 % 2 = 1
   · rw [if_pos g, if_pos g]; exact S0r hd
   · rw [if_neg g, if_neg g]; exact hd
 | some c =>
   rw [e] at this
   obtain ⟨B', hc, hI, hD⟩ := this
   exact ⟨hc, fun hz => hD.stop hn hc fun i h1 h2 => hz i h1 h2 _ (hI i c h2 hc)⟩
