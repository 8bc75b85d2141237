/- How whole numbers and complex fractions lie in memory. No program in sight. -/
import Derived.Test.YtnbjnokgmeamdaaVQ
namespace Go.Vc
open Go

/-- An integer: its sign and its magnitude. -/
def IntAt (V : View) (x : WhV) (n : Int) : Prop := x.neg = decide (n < 0) ∧ NatAt V x.mag n.natAbs
theorem IntAt.le {V V' : View} {x : WhV} {n : Int} (hle : V.le V') (h : IntAt V x n) : IntAt V' x n := ⟨h.1, h.2.le hle⟩
theorem IntAt.zero (V : View) : IntAt V (WhV.mk false (Sl.mk none 0 0)) 0 := ⟨by simp, NatAt.zero V⟩
theorem IntAt.val {V : View} {x : WhV} {n : Int} (h : IntAt V x n) : n = if x.neg = true then -(n.natAbs : Int) else (n.natAbs : Int) := by
  rw [h.1]; simp only [decide_eq_true_eq]; split <;> omega
theorem IntAt.inj {V : View} {x : WhV} {n m : Int} (h : IntAt V x n) (h' : IntAt V x m) : n = m := by
  rw [h.val, h'.val, NatAt.inj h.2 h'.2]

/-- The program's number: the denominator 1 is no words. -/
structure NumAt (V : View) (x : NumV) (z : Cq) : Prop where
  re : IntAt V x.re z.A
  im : IntAt V x.im z.B
  under : NatAt V x.under (if z.D = 1 then 0 else z.D)
/-- The reference's number. -/
structure QAt (V : View) (x : NumV) (z : Cq) : Prop where
  re : IntAt V x.re z.A
  im : IntAt V x.im z.B
  under : NatAt V x.under z.D
theorem NumAt.le {V V' : View} {x : NumV} {z : Cq} (hle : V.le V') (h : NumAt V x z) : NumAt V' x z := ⟨h.re.le hle, h.im.le hle, h.under.le hle⟩
theorem QAt.le {V V' : View} {x : NumV} {z : Cq} (hle : V.le V') (h : QAt V x z) : QAt V' x z := ⟨h.re.le hle, h.im.le hle, h.under.le hle⟩
theorem NumAt.inj {V : View} {x : NumV} {z w : Cq} (h : NumAt V x z) (h' : NumAt V x w) : z = w := by
  refine Cq.eq_of (h.re.inj h'.re) (h.im.inj h'.im) ?_
  have := NatAt.inj h.under h'.under
  have := z.D_pos
  have := w.D_pos
  split at * <;> split at * <;> omega

theorem NatAt.len_zero {V : View} {s : Sl} {n : Nat} (h : NatAt V s n) : s.len = 0 ↔ n = 0 := by
  rw [← wn_eq_zero (n := n), wn, ← h.len]
theorem wn40 {a : Nat} (h : bl a ≤ 2 ^ 42) : wn a ≤ 2 ^ 37 := wn_bl (by omega)

theorem Rep.ofInt (n : Int) : Rep ⟨(n : Rat), 0⟩ n 0 1 := by
  refine ⟨by omega, ?_, ?_⟩
  · rw [Rat.div_def]; simp; grind
  · rw [Rat.div_def]; simp
theorem Cq.ofInt_eqs (n : Int) : (Cq.mk (n : Rat) 0).A = n ∧ (Cq.mk (n : Rat) 0).B = 0 ∧ (Cq.mk (n : Rat) 0).D = 1 :=
  Canon.eqs ⟨Rep.ofInt n, by simp⟩
theorem Cq.zero_eqs : Cq.zero.A = 0 ∧ Cq.zero.B = 0 ∧ Cq.zero.D = 1 := by
  have := Cq.ofInt_eqs 0
  simp only [Rat.intCast_zero] at this
  exact this
theorem NumAt.zero (V : View) : NumAt V (NumV.mk (WhV.mk false (Sl.mk none 0 0)) (WhV.mk false (Sl.mk none 0 0)) (Sl.mk none 0 0)) Cq.zero := by
  obtain ⟨h1, h2, h3⟩ := Cq.zero_eqs
  refine ⟨by rw [h1]; exact IntAt.zero V, by rw [h2]; exact IntAt.zero V, by rw [h3]; exact NatAt.zero V⟩
theorem bl_one : bl 1 = 1 := by decide
theorem Cq.sz_zero : Cq.zero.sz ≤ 1 := by
  obtain ⟨h1, h2, h3⟩ := Cq.zero_eqs
  unfold Cq.sz; rw [h1, h2, h3]; simp [bl_zero, bl_one]

theorem Cq.sz_add (z w : Cq) : (z + w).sz ≤ z.sz + w.sz + 1 := by
  have a1 := z.szA; have a2 := z.szB; have a3 := z.szD
  have b1 := w.szA; have b2 := w.szB; have b3 := w.szD
  refine (z.canon.rep.add w.canon.rep).sz ?_ ?_ ?_
  · refine bl_addi (Nat.le_trans (bl_muli _ _) ?_) (Nat.le_trans (bl_muli _ _) ?_) <;> simp only [Int.natAbs_natCast] <;> omega
  · refine bl_addi (Nat.le_trans (bl_muli _ _) ?_) (Nat.le_trans (bl_muli _ _) ?_) <;> simp only [Int.natAbs_natCast] <;> omega
  · exact Nat.le_trans (bl_mul _ _) (by omega)
theorem Cq.sz_mul (z w : Cq) : (z * w).sz ≤ z.sz + w.sz + 1 := by
  have a1 := z.szA; have a2 := z.szB; have a3 := z.szD
  have b1 := w.szA; have b2 := w.szB; have b3 := w.szD
  refine (z.canon.rep.mul w.canon.rep).sz ?_ ?_ ?_
  · exact bl_subi (Nat.le_trans (bl_muli _ _) (by omega)) (Nat.le_trans (bl_muli _ _) (by omega))
  · exact bl_addi (Nat.le_trans (bl_muli _ _) (by omega)) (Nat.le_trans (bl_muli _ _) (by omega))
  · exact Nat.le_trans (bl_mul _ _) (by omega)
theorem Cq.neg_eqs (z : Cq) : (-z).A = -z.A ∧ (-z).B = -z.B ∧ (-z).D = z.D :=
  Canon.eqs ⟨z.canon.rep.neg, by rw [Int.natAbs_neg, Int.natAbs_neg]; exact z.canon.cop⟩
theorem Cq.conj_eqs (z : Cq) : z.conj.A = z.A ∧ z.conj.B = -z.B ∧ z.conj.D = z.D :=
  Canon.eqs ⟨z.canon.rep.conj, by rw [Int.natAbs_neg]; exact z.canon.cop⟩
theorem Cq.sz_neg (z : Cq) : (-z).sz = z.sz := by
  obtain ⟨h1, h2, h3⟩ := z.neg_eqs
  unfold Cq.sz; rw [h1, h2, h3, Int.natAbs_neg, Int.natAbs_neg]
theorem Cq.sz_conj (z : Cq) : z.conj.sz = z.sz := by
  obtain ⟨h1, h2, h3⟩ := z.conj_eqs
  unfold Cq.sz; rw [h1, h2, h3, Int.natAbs_neg]
theorem Cq.sub_eq (z w : Cq) : z - w = z + -w := Cq.ext' (by rw [Cq.sub_re, Cq.add_re, Cq.neg_re]; grind) (by rw [Cq.sub_im, Cq.add_im, Cq.neg_im]; grind)
theorem Cq.sz_sub (z w : Cq) : (z - w).sz ≤ z.sz + w.sz + 1 := by
  rw [Cq.sub_eq, ← Cq.sz_neg w]; exact Cq.sz_add z (-w)

theorem Cq.B_zero {z : Cq} : z.B = 0 ↔ z.im = 0 := by
  have h := z.canon.rep
  rw [h.im]
  constructor
  · intro e; rw [e]; simp [Rat.div_def]
  · intro e
    have hD := natCast_ne h.pos
    have : ((z.B : Int) : Rat) = 0 := by
      have h2 := congrArg (· * (z.D : Rat)) e
      simp only [Rat.div_mul_cancel hD, Rat.zero_mul] at h2
      exact h2
    simpa using this
theorem Cq.A_zero {z : Cq} : z.A = 0 ↔ z.re = 0 := by
  have h := z.canon.rep
  rw [h.re]
  constructor
  · intro e; rw [e]; simp [Rat.div_def]
  · intro e
    have hD := natCast_ne h.pos
    have : ((z.A : Int) : Rat) = 0 := by
      have h2 := congrArg (· * (z.D : Rat)) e
      simp only [Rat.div_mul_cancel hD, Rat.zero_mul] at h2
      exact h2
    simpa using this

/-- How two fractions compare, by their numerators over the other's denominator. -/
theorem div_lt_div_iff {A A' : Int} {D D' : Nat} (h : D ≠ 0) (h' : D' ≠ 0) : (A : Rat) / (D : Rat) < (A' : Rat) / (D' : Rat) ↔ A * D' < A' * D := by
  have p : (0 : Rat) < (D : Rat) := Rat.natCast_pos.2 (by omega)
  have p' : (0 : Rat) < (D' : Rat) := Rat.natCast_pos.2 (by omega)
  rw [Rat.div_lt_iff p]
  have e : (A' : Rat) / (D' : Rat) * (D : Rat) = ((A' * D : Int) : Rat) / (D' : Rat) := by push_cast; rw [Rat.div_def, Rat.div_def]; grind
  rw [e, Rat.lt_div_iff p']
  have e2 : (A : Rat) * (D' : Rat) = ((A * D' : Int) : Rat) := by push_cast; rfl
  rw [e2]; exact Rat.intCast_lt_intCast

/-- -1, 0 or 1. -/
def cmpR (x y : Rat) : Int := if x < y then -1 else if x = y then 0 else 1
def cmpZ (x y : Int) : Int := if x < y then -1 else if x = y then 0 else 1
theorem cmpZ_lt {x y : Int} (h : x < y) : cmpZ x y = -1 := by unfold cmpZ; rw [if_pos h]
theorem cmpZ_eq {x y : Int} (h : x = y) : cmpZ x y = 0 := by unfold cmpZ; rw [if_neg (by omega), if_pos h]
theorem cmpZ_gt {x y : Int} (h : y < x) : cmpZ x y = 1 := by unfold cmpZ; rw [if_neg (by omega), if_neg (by omega)]
theorem cmpZ_zero {x y : Int} : cmpZ x y = 0 ↔ x = y := by
  unfold cmpZ; split
  · omega
  · split <;> omega
theorem cmpZ_R {A A' : Int} {D D' : Nat} (h : D ≠ 0) (h' : D' ≠ 0) : cmpZ (A * D') (A' * D) = cmpR ((A : Rat) / (D : Rat)) ((A' : Rat) / (D' : Rat)) := by
  unfold cmpZ cmpR
  simp only [div_lt_div_iff h h', div_eq_div_iff' h h']
/-- As the program compares: by the real parts, then by the imaginary ones. -/
def Cq.cmp (z w : Cq) : Int := if cmpR z.re w.re ≠ 0 then cmpR z.re w.re else cmpR z.im w.im

end Go.Vc
