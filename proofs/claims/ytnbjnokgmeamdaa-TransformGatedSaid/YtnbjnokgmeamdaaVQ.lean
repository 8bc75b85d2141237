/- Complex fractions and their lowest terms. No program in sight. -/
import Derived.Test.YtnbjnokgmeamdaaVBit
namespace Go.Vc
open Go

/-- A complex number whose parts are fractions. -/
structure Cq where
  re : Rat
  im : Rat
theorem Cq.ext' {x y : Cq} (h1 : x.re = y.re) (h2 : x.im = y.im) : x = y := by cases x; cases y; cases h1; cases h2; rfl
instance : DecidableEq Cq := fun x y => if h1 : x.re = y.re then if h2 : x.im = y.im then .isTrue (Cq.ext' h1 h2) else .isFalse (fun e => h2 (by rw [e])) else .isFalse (fun e => h1 (by rw [e]))
instance : Add Cq := ⟨fun x y => ⟨x.re + y.re, x.im + y.im⟩⟩
instance : Neg Cq := ⟨fun x => ⟨-x.re, -x.im⟩⟩
instance : Sub Cq := ⟨fun x y => ⟨x.re - y.re, x.im - y.im⟩⟩
instance : Mul Cq := ⟨fun x y => ⟨x.re * y.re - x.im * y.im, x.re * y.im + x.im * y.re⟩⟩
def Cq.conj (x : Cq) : Cq := ⟨x.re, -x.im⟩
def Cq.norm (x : Cq) : Rat := x.re * x.re + x.im * x.im
def Cq.ofR (r : Rat) : Cq := ⟨r, 0⟩
def Cq.zero : Cq := ⟨0, 0⟩
def Cq.one : Cq := ⟨1, 0⟩
def Cq.I : Cq := ⟨0, 1⟩
def Cq.div (x y : Cq) : Cq := ⟨(x.re * y.re + x.im * y.im) / y.norm, (x.im * y.re - x.re * y.im) / y.norm⟩
theorem Cq.add_re (x y : Cq) : (x + y).re = x.re + y.re := rfl
theorem Cq.add_im (x y : Cq) : (x + y).im = x.im + y.im := rfl
theorem Cq.sub_re (x y : Cq) : (x - y).re = x.re - y.re := rfl
theorem Cq.sub_im (x y : Cq) : (x - y).im = x.im - y.im := rfl
theorem Cq.neg_re (x : Cq) : (-x).re = -x.re := rfl
theorem Cq.neg_im (x : Cq) : (-x).im = -x.im := rfl
theorem Cq.mul_re (x y : Cq) : (x * y).re = x.re * y.re - x.im * y.im := rfl
theorem Cq.mul_im (x y : Cq) : (x * y).im = x.re * y.im + x.im * y.re := rfl
theorem Cq.conj_re (x : Cq) : x.conj.re = x.re := rfl
theorem Cq.conj_im (x : Cq) : x.conj.im = -x.im := rfl

/-- (A + B i)/D. -/
structure Rep (z : Cq) (A B : Int) (D : Nat) : Prop where
  pos : D ≠ 0
  re : z.re = (A : Rat) / (D : Rat)
  im : z.im = (B : Rat) / (D : Rat)
/-- The same in lowest terms. -/
structure Canon (z : Cq) (A B : Int) (D : Nat) : Prop where
  rep : Rep z A B D
  cop : Nat.gcd (Nat.gcd A.natAbs B.natAbs) D = 1

theorem natCast_ne {D : Nat} (h : D ≠ 0) : (D : Rat) ≠ 0 := by simpa using h

theorem div_eq_div_iff' {A A' : Int} {D D' : Nat} (h : D ≠ 0) (h' : D' ≠ 0) : (A : Rat) / (D : Rat) = (A' : Rat) / (D' : Rat) ↔ A * D' = A' * D := by
  rw [← Rat.mkRat_eq_div, ← Rat.mkRat_eq_div, Rat.mkRat_eq_iff h h']

theorem Canon.dvd {z : Cq} {A B A' B' : Int} {D D' : Nat} (h : Canon z A B D) (h' : Rep z A' B' D') : D ∣ D' := by
  have e1 := (div_eq_div_iff' h.rep.pos h'.pos).1 (h.rep.re.symm.trans h'.re)
  have e2 := (div_eq_div_iff' h.rep.pos h'.pos).1 (h.rep.im.symm.trans h'.im)
  have f1 : D ∣ A.natAbs * D' := by
    have := congrArg Int.natAbs e1
    rw [Int.natAbs_mul, Int.natAbs_mul, Int.natAbs_natCast, Int.natAbs_natCast] at this
    exact ⟨A'.natAbs, by rw [this, Nat.mul_comm]⟩
  have f2 : D ∣ B.natAbs * D' := by
    have := congrArg Int.natAbs e2
    rw [Int.natAbs_mul, Int.natAbs_mul, Int.natAbs_natCast, Int.natAbs_natCast] at this
    exact ⟨B'.natAbs, by rw [this, Nat.mul_comm]⟩
  have f3 := Nat.dvd_gcd f1 f2
  rw [Nat.gcd_mul_right] at f3
  have hc : Nat.Coprime D (Nat.gcd A.natAbs B.natAbs) := by rw [Nat.Coprime, Nat.gcd_comm]; exact h.cop
  exact hc.dvd_of_dvd_mul_left f3

theorem Canon.inj {z : Cq} {A B A' B' : Int} {D D' : Nat} (h : Canon z A B D) (h' : Canon z A' B' D') : A = A' ∧ B = B' ∧ D = D' := by
  have hD : D = D' := Nat.dvd_antisymm (h.dvd h'.rep) (h'.dvd h.rep)
  subst hD
  have e1 := (div_eq_div_iff' h.rep.pos h'.rep.pos).1 (h.rep.re.symm.trans h'.rep.re)
  have e2 := (div_eq_div_iff' h.rep.pos h'.rep.pos).1 (h.rep.im.symm.trans h'.rep.im)
  have hD : (D : Int) ≠ 0 := by have := h.rep.pos; omega
  exact ⟨Int.eq_of_mul_eq_mul_right hD e1, Int.eq_of_mul_eq_mul_right hD e2, rfl⟩

/-- The common divisor of all three. -/
def gcd3 (A B : Int) (D : Nat) : Nat := Nat.gcd (Nat.gcd A.natAbs B.natAbs) D
theorem gcd3_pos (A B : Int) {D : Nat} (h : D ≠ 0) : 0 < gcd3 A B D := Nat.gcd_pos_of_pos_right _ (by omega)
theorem gcd3_dvd1 (A B : Int) (D : Nat) : gcd3 A B D ∣ A.natAbs := Nat.dvd_trans (Nat.gcd_dvd_left _ _) (Nat.gcd_dvd_left _ _)
theorem gcd3_dvd2 (A B : Int) (D : Nat) : gcd3 A B D ∣ B.natAbs := Nat.dvd_trans (Nat.gcd_dvd_left _ _) (Nat.gcd_dvd_right _ _)
theorem gcd3_dvd3 (A B : Int) (D : Nat) : gcd3 A B D ∣ D := Nat.gcd_dvd_right _ _

theorem natAbs_div {A : Int} {g : Nat} (h : g ∣ A.natAbs) : (A / (g : Int)).natAbs = A.natAbs / g := by
  obtain ⟨k, hk⟩ := h
  rcases Nat.eq_zero_or_pos g with h0 | h0
  · subst h0; simp
  · have hg : (g : Int) ≠ 0 := by omega
    rcases Int.natAbs_eq A with e | e
    · rw [hk] at e; rw [e, Int.natCast_mul, Int.mul_ediv_cancel_left _ hg, Int.natAbs_natCast, Int.natAbs_mul, Int.natAbs_natCast, Int.natAbs_natCast, Nat.mul_div_cancel_left _ h0]
    · rw [hk] at e; rw [e, Int.natCast_mul, ← Int.mul_neg, Int.mul_ediv_cancel_left _ hg, Int.natAbs_neg, Int.natAbs_natCast, Int.natAbs_mul, Int.natAbs_natCast, Int.natAbs_neg, Int.natAbs_natCast, Nat.mul_div_cancel_left _ h0]
theorem div_mul_of {A : Int} {g : Nat} (h : g ∣ A.natAbs) : A / (g : Int) * g = A := Int.ediv_mul_cancel (Int.ofNat_dvd_left.2 h)
theorem div_lt_zero {A : Int} {g : Nat} (h : g ∣ A.natAbs) (hg : 0 < g) : decide (A / (g : Int) < 0) = decide (A < 0) := by
  have e := div_mul_of h
  have hg' : (0 : Int) < g := by omega
  have : A / (g : Int) < 0 ↔ A < 0 := by
    constructor
    · intro h1
      have := Int.mul_neg_of_neg_of_pos h1 hg'
      omega
    · intro h1
      rcases Int.lt_or_le (A / (g : Int)) 0 with h2 | h2
      · exact h2
      · have := Int.mul_nonneg h2 (Int.le_of_lt hg'); omega
  simp [this]

theorem Rep.canon {z : Cq} {A B : Int} {D : Nat} (h : Rep z A B D) : Canon z (A / (gcd3 A B D : Nat)) (B / (gcd3 A B D : Nat)) (D / gcd3 A B D) := by
  have hg := gcd3_pos A B h.pos
  have d1 := gcd3_dvd1 A B D
  have d2 := gcd3_dvd2 A B D
  have d3 := gcd3_dvd3 A B D
  have hne : D / gcd3 A B D ≠ 0 := by
    have := Nat.div_pos (Nat.le_of_dvd (by have := h.pos; omega) d3) hg
    omega
  have key : ∀ {C : Int}, gcd3 A B D ∣ C.natAbs → (C : Rat) / (D : Rat) = ((C / (gcd3 A B D : Nat) : Int) : Rat) / ((D / gcd3 A B D : Nat) : Rat) := by
    intro C hC
    rw [div_eq_div_iff' h.pos hne]
    have e1 := div_mul_of hC
    have e2 := Nat.div_mul_cancel d3
    have e3 : (D : Int) = ((D / gcd3 A B D : Nat) : Int) * (gcd3 A B D : Nat) := by rw [← Int.natCast_mul, e2]
    generalize (C / (gcd3 A B D : Nat) : Int) = q at *
    generalize D / gcd3 A B D = m at *
    generalize gcd3 A B D = g at *
    rw [← e1, e3]
    grind
  refine ⟨⟨hne, h.re.trans (key d1), h.im.trans (key d2)⟩, ?_⟩
  rw [natAbs_div d1, natAbs_div d2, Nat.gcd_div d1 d2, Nat.gcd_div (Nat.dvd_gcd d1 d2) d3]
  exact Nat.div_self hg

theorem Cq.rep (z : Cq) : Rep z (z.re.num * z.im.den) (z.im.num * z.re.den) (z.re.den * z.im.den) := by
  have h1 := z.re.den_nz
  have h2 := z.im.den_nz
  have h3 := Nat.mul_ne_zero h1 h2
  refine ⟨h3, ?_, ?_⟩
  · conv => lhs; rw [← Rat.mkRat_self z.re, Rat.mkRat_eq_div]
    rw [div_eq_div_iff' h1 h3]
    rw [Int.natCast_mul]; grind
  · conv => lhs; rw [← Rat.mkRat_self z.im, Rat.mkRat_eq_div]
    rw [div_eq_div_iff' h2 h3]
    rw [Int.natCast_mul]; grind
def Cq.g (z : Cq) : Nat := gcd3 (z.re.num * z.im.den) (z.im.num * z.re.den) (z.re.den * z.im.den)
def Cq.A (z : Cq) : Int := z.re.num * z.im.den / (z.g : Int)
def Cq.B (z : Cq) : Int := z.im.num * z.re.den / (z.g : Int)
def Cq.D (z : Cq) : Nat := z.re.den * z.im.den / z.g
theorem Cq.canon (z : Cq) : Canon z z.A z.B z.D := z.rep.canon
theorem Cq.D_pos (z : Cq) : z.D ≠ 0 := z.canon.rep.pos
theorem Canon.eqs {z : Cq} {A B : Int} {D : Nat} (h : Canon z A B D) : z.A = A ∧ z.B = B ∧ z.D = D := z.canon.inj h
theorem Rep.eqs {z : Cq} {A B : Int} {D : Nat} (h : Rep z A B D) : z.A = A / (gcd3 A B D : Nat) ∧ z.B = B / (gcd3 A B D : Nat) ∧ z.D = D / gcd3 A B D := h.canon.eqs
theorem Cq.eq_of {z w : Cq} (h1 : z.A = w.A) (h2 : z.B = w.B) (h3 : z.D = w.D) : z = w := by
  have a := z.canon.rep
  have b := w.canon.rep
  exact Cq.ext' (by rw [a.re, b.re, h1, h3]) (by rw [a.im, b.im, h2, h3])

/-- The greatest number of bits. -/
def Cq.sz (z : Cq) : Nat := max (bl z.A.natAbs) (max (bl z.B.natAbs) (bl z.D))

theorem bl_mono {a b : Nat} (h : a ≤ b) : bl a ≤ bl b := by
  rcases Nat.eq_zero_or_pos a with h0 | h0
  · subst h0; simp [bl_zero]
  · have h1 := bl_le (by omega : a ≠ 0)
    have h2 := lt_bl b
    have := (Nat.pow_lt_pow_iff_right (a := 2) (n := bl a - 1) (m := bl b) (by omega)).1 (by omega)
    omega
theorem bl_le_of_lt {a k : Nat} (h : a < 2 ^ k) : bl a ≤ k := by
  rcases Nat.eq_zero_or_pos a with h0 | h0
  · subst h0; simp [bl_zero]
  · have h1 := bl_le (by omega : a ≠ 0)
    have := (Nat.pow_lt_pow_iff_right (a := 2) (n := bl a - 1) (m := k) (by omega)).1 (by omega)
    omega
theorem lt_of_bl {a k : Nat} (h : bl a ≤ k) : a < 2 ^ k := Nat.lt_of_lt_of_le (lt_bl a) (Nat.pow_le_pow_right (by omega) h)
theorem bl_mul (a b : Nat) : bl (a * b) ≤ bl a + bl b := by
  refine bl_le_of_lt ?_
  rw [Nat.pow_add]
  exact Nat.mul_lt_mul'' (lt_bl a) (lt_bl b)
theorem bl_add {a b k : Nat} (h1 : bl a ≤ k) (h2 : bl b ≤ k) : bl (a + b) ≤ k + 1 := by
  refine bl_le_of_lt ?_
  have := lt_of_bl h1
  have := lt_of_bl h2
  rw [Nat.pow_succ]; omega
theorem bl_addi {a b : Int} {k : Nat} (h1 : bl a.natAbs ≤ k) (h2 : bl b.natAbs ≤ k) : bl (a + b).natAbs ≤ k + 1 :=
  Nat.le_trans (bl_mono (Int.natAbs_add_le a b)) (bl_add h1 h2)
theorem bl_subi {a b : Int} {k : Nat} (h1 : bl a.natAbs ≤ k) (h2 : bl b.natAbs ≤ k) : bl (a - b).natAbs ≤ k + 1 := by
  rw [Int.sub_eq_add_neg]
  exact bl_addi h1 (by rw [Int.natAbs_neg]; exact h2)
theorem bl_muli (a b : Int) : bl (a * b).natAbs ≤ bl a.natAbs + bl b.natAbs := by rw [Int.natAbs_mul]; exact bl_mul _ _
theorem wn_bl {a k : Nat} (h : bl a ≤ 32 * k) : wn a ≤ k := wn_lt_pow (lt_of_bl h)

theorem Rep.sz {z : Cq} {A B : Int} {D k : Nat} (h : Rep z A B D) (hA : bl A.natAbs ≤ k) (hB : bl B.natAbs ≤ k) (hD : bl D ≤ k) : z.sz ≤ k := by
  obtain ⟨e1, e2, e3⟩ := h.eqs
  unfold Cq.sz
  rw [e1, e2, e3, natAbs_div (gcd3_dvd1 A B D), natAbs_div (gcd3_dvd2 A B D)]
  have a := bl_mono (Nat.div_le_self A.natAbs (gcd3 A B D))
  have b := bl_mono (Nat.div_le_self B.natAbs (gcd3 A B D))
  have c := bl_mono (Nat.div_le_self D (gcd3 A B D))
  omega
theorem Cq.szA (z : Cq) : bl z.A.natAbs ≤ z.sz := Nat.le_max_left _ _
theorem Cq.szB (z : Cq) : bl z.B.natAbs ≤ z.sz := by unfold Cq.sz; omega
theorem Cq.szD (z : Cq) : bl z.D ≤ z.sz := by unfold Cq.sz; omega

/-- What the operations come to, over a common denominator. -/
theorem Rep.add {z w : Cq} {A B A' B' : Int} {D D' : Nat} (h : Rep z A B D) (h' : Rep w A' B' D') : Rep (z + w) (A * D' + A' * D) (B * D' + B' * D) (D * D') := by
  have n1 := natCast_ne h.pos
  have n2 := natCast_ne h'.pos
  refine ⟨Nat.mul_ne_zero h.pos h'.pos, ?_, ?_⟩
  · rw [Cq.add_re, h.re, h'.re]; push_cast; grind
  · rw [Cq.add_im, h.im, h'.im]; push_cast; grind
theorem Rep.neg {z : Cq} {A B : Int} {D : Nat} (h : Rep z A B D) : Rep (-z) (-A) (-B) D := by
  refine ⟨h.pos, ?_, ?_⟩
  · rw [Cq.neg_re, h.re]; push_cast; grind
  · rw [Cq.neg_im, h.im]; push_cast; grind
theorem Rep.conj {z : Cq} {A B : Int} {D : Nat} (h : Rep z A B D) : Rep z.conj A (-B) D := by
  refine ⟨h.pos, h.re, ?_⟩
  rw [Cq.conj_im, h.im]; push_cast; grind
theorem Rep.mul {z w : Cq} {A B A' B' : Int} {D D' : Nat} (h : Rep z A B D) (h' : Rep w A' B' D') : Rep (z * w) (A * A' - B * B') (A * B' + B * A') (D * D') := by
  have n1 := natCast_ne h.pos
  have n2 := natCast_ne h'.pos
  refine ⟨Nat.mul_ne_zero h.pos h'.pos, ?_, ?_⟩
  · rw [Cq.mul_re, h.re, h'.re, h.im, h'.im]; push_cast; grind
  · rw [Cq.mul_im, h.re, h'.re, h.im, h'.im]; push_cast; grind

end Go.Vc
