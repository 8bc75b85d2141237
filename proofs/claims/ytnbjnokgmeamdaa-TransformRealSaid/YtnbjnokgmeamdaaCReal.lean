/- The call of TransformReal returns true. -/
import Derived.Test.YtnbjnokgmeamdaaCBackL
import Derived.Test.YtnbjnokgmeamdaaFReal
namespace Go.Proofs.Ytnbjnokgmeamdaa
open Go Go.Vc Go.Proofs

theorem ratQ_sz {r : RatV} (h : ratI r) : (ratQ r).sz ≤ 64 := by
  obtain ⟨⟨a, b⟩, ⟨c, d⟩, e, f⟩ := h
  have key : Rep (ratQ r) (if r.den < 0 then -r.re else r.re) (if r.den < 0 then -r.im else r.im) (if r.den = 0 then 1 else r.den.natAbs) := by
    unfold ratQ
    split
    · rename_i h0
      have : ¬ r.den < 0 := by omega
      rw [if_neg this, if_neg this]
      refine ⟨by omega, ?_, ?_⟩ <;> simp only [] <;> rw [Rat.div_def] <;> simp <;> grind
    · by_cases hn : r.den < 0
      · rw [if_pos hn, if_pos hn]
        have hd : (r.den : Rat) ≠ 0 := by
          intro e0
          have := Rat.intCast_inj.1 (e0.trans Rat.intCast_zero.symm)
          omega
        have e : ((r.den.natAbs : Nat) : Rat) = -(r.den : Rat) := by
          have e1 : ((r.den.natAbs : Nat) : Rat) = (((r.den.natAbs : Nat) : Int) : Rat) := rfl
          have e2 : ((r.den.natAbs : Nat) : Int) = -r.den := by omega
          rw [e1, e2, Rat.intCast_neg]
        refine ⟨by omega, ?_, ?_⟩ <;> simp only [e, Rat.intCast_neg] <;> grind
      · rw [if_neg hn, if_neg hn]
        have e : ((r.den.natAbs : Nat) : Rat) = (r.den : Rat) := by
          have e2 : ((r.den.natAbs : Nat) : Int) = r.den := by omega
          conv => rhs; rw [← e2]
          rfl
        exact ⟨by omega, by simp only [e], by simp only [e]⟩
  refine key.sz ?_ ?_ ?_
  · exact bl_le_of_lt (by split <;> omega)
  · exact bl_le_of_lt (by split <;> omega)
  · exact bl_le_of_lt (by split <;> omega)

/-- A real response's spectrum, of none or one beside the first. -/
def extF (d : Cq) : List Cq → List Cq
  | [] => [d, Cq.zero]
  | a :: _ => [d, a, Cq.zero, a.conj]
theorem zeroQ_eq : (⟨((0 : Int) : Rat) / ((1 : Int) : Rat), ((0 : Int) : Rat) / ((1 : Int) : Rat)⟩ : Cq) = Cq.zero := Cq.ext' (by simp [Rat.div_def]; rfl) (by simp [Rat.div_def]; rfl)

theorem Extend_nil {V : View} {s : Sl} {x : NumV} {d : Cq} (h : NumsAt V s []) (hx : NumAt V x d) :
    CallV Try.prog n_transform_Extend_num_Num_ #[s.v, x.val] V fun v V' => ∃ r : Sl, v = .tuple #[r.v, .int .i64 0] ∧ NumsAt V' r [d, Cq.zero] := by
  have hl : s.len = 0 := h.len
  have w1 : IntKind.i64.wrap (((0 : Nat) : Int) + 1) = 1 := by decide
  have w2 : IntKind.i64.wrap (2 * 1) = 2 := by decide
  refine transform_Extend_num_Num__vc s x V _ (fun _ _ _ => True) (fun _ y V' => y.t8 = 1 ∧ NumsIn V' y.o22 [d, Cq.zero]) (fun _ _ _ => 0) ?_
  rw [hl, w1, w2]
  simp only [show Int.toNat 2 = 2 from rfl, show Int.toNat 4 = 4 from rfl, show Int.toNat 1 = 1 from rfl, show Int.toNat 0 = 0 from rfl]
  refine ⟨⟨fun h => absurd h (by decide), fun _ => (transform_length_spec (by decide)).mono fun v V2 l2 hv => ⟨_, hv, fun h => absurd h (by decide), fun _ => trivial⟩⟩, ?_⟩
  intro _ V1 l1 _
  refine ⟨⟨by decide, by decide, by decide, by decide⟩, (of_spec (p := 0) (q := 1) (by decide) (by decide) (by decide) (by decide) (by decide)).mono fun v V3 l3 ⟨r2, hv, h2⟩ => ⟨r2, hv, ?_⟩⟩
  rw [zeroQ_eq] at h2
  have s0 := NumsIn.zeros V3 2
  have s1 := s0.set (i := 0) (by simp) (hx.le (View.le_trans l1 l3))
  have s2 := s1.set (i := 1) (by simp) h2
  rw [show ((List.replicate 2 Cq.zero).set 0 d).set 1 Cq.zero = [d, Cq.zero] from rfl] at s2
  refine ⟨⟨by decide, by decide⟩, Cells.room s0 (i := 0) (by simp), ⟨by decide, by decide⟩, Cells.room s1 (i := 1) (by simp), ⟨trivial, s2⟩, ?_⟩
  rintro ⟨t, o⟩ V4 l4 ⟨ht, ho⟩
  dsimp only at ht ho ⊢
  subst ht
  exact ⟨fun h => absurd h (by simp), fun _ b V6 l6 hb => ⟨_, rfl, ListAt.of_made hb (ho.le l6) rfl⟩⟩

theorem Extend_one {V : View} {s : Sl} {x : NumV} {d a : Cq} (h : NumsAt V s [a]) (hx : NumAt V x d) :
    CallV Try.prog n_transform_Extend_num_Num_ #[s.v, x.val] V fun v V' => ∃ r : Sl, v = .tuple #[r.v, .int .i64 0] ∧ NumsAt V' r [d, a, Cq.zero, a.conj] := by
  have hl : s.len = 1 := h.len
  have w1 : IntKind.i64.wrap (((1 : Nat) : Int) + 1) = 2 := by decide
  have w2 : IntKind.i64.wrap (2 * 2) = 4 := by decide
  refine transform_Extend_num_Num__vc s x V _ (fun _ _ _ => True) (fun _ y V' => (y.t8 = 1 ∧ NumsIn V' y.o22 [d, Cq.zero, Cq.zero, Cq.zero]) ∨ (y.t8 = 2 ∧ NumsIn V' y.o22 [d, a, Cq.zero, a.conj])) (fun _ y _ => (2 - y.t8).toNat) ?_
  rw [hl, w1, w2]
  simp only [show Int.toNat 2 = 2 from rfl, show Int.toNat 4 = 4 from rfl, show Int.toNat 1 = 1 from rfl, show Int.toNat 0 = 0 from rfl]
  refine ⟨⟨fun h => absurd h (by decide), fun _ => (transform_length_spec (by decide)).mono fun v V2 l2 hv => ⟨_, hv, fun h => absurd h (by decide), fun _ => trivial⟩⟩, ?_⟩
  intro _ V1 l1 _
  refine ⟨⟨by decide, by decide, by decide, by decide⟩, (of_spec (p := 0) (q := 1) (by decide) (by decide) (by decide) (by decide) (by decide)).mono fun v V3 l3 ⟨r2, hv, h2⟩ => ⟨r2, hv, ?_⟩⟩
  rw [zeroQ_eq] at h2
  have s0 := NumsIn.zeros V3 4
  have s1 := s0.set (i := 0) (by simp) (hx.le (View.le_trans l1 l3))
  have s2 := s1.set (i := 2) (by simp) h2
  rw [show ((List.replicate 4 Cq.zero).set 0 d).set 2 Cq.zero = [d, Cq.zero, Cq.zero, Cq.zero] from rfl] at s2
  refine ⟨⟨by decide, by decide⟩, Cells.room s0 (i := 0) (by simp), ⟨by decide, by decide⟩, Cells.room s1 (i := 2) (by simp), .inl ⟨trivial, s2⟩, ?_⟩
  rintro ⟨t, o⟩ V4 l4 ho
  dsimp only at ho ⊢
  rcases ho with ⟨rfl, ho⟩ | ⟨rfl, ho⟩
  · refine ⟨fun _ => ?_, fun h => absurd h (by simp)⟩
    have w3 : IntKind.i64.wrap (1 - 1) = 0 := by decide
    have w4 : IntKind.i64.wrap (4 - 1) = 3 := by decide
    have w5 : IntKind.i64.wrap (1 + 1) = 2 := by decide
    rw [w3, w4, w5]
    obtain ⟨hb6, x6, hx6, hs6, hn6⟩ := (h.le (View.le_trans l1 (View.le_trans l3 l4))).get (t := 0) (by decide) (by simp)
    rw [hl] at hb6
    refine ⟨hb6, x6, hx6, hs6, hb6, x6, hx6, hs6, (Num_Conj_spec hn6).mono fun v V5 l5 ⟨r3, hv, h3⟩ => ⟨r3, hv, ?_⟩⟩
    have o5 := ho.le l5
    have t1 := o5.set (i := 1) (by simp) (hn6.le l5)
    have t2 := t1.set (i := 3) (by simp) h3
    rw [show (([d, Cq.zero, Cq.zero, Cq.zero] : List Cq).set 1 (nth [a] (Int.toNat 0))).set 3 (nth [a] (Int.toNat 0)).conj = [d, a, Cq.zero, a.conj] from rfl] at t2
    exact ⟨⟨by decide, by decide⟩, Cells.room o5 (i := 1) (by simp), ⟨by decide, by decide⟩, Cells.room t1 (i := 3) (by simp), .inr ⟨rfl, t2⟩, by decide⟩
  · exact ⟨fun h => absurd h (by simp), fun _ b V6 l6 hb => ⟨_, rfl, ListAt.of_made hb (ho.le l6) rfl⟩⟩

/-- The sums of the first elements. -/
def psum (zs : List Cq) : Nat → Cq
  | 0 => nth zs 0
  | k + 1 => psum zs k + nth zs (k + 1)
theorem psum_sz (zs : List Cq) (S : Nat) (hS : ∀ i, i < zs.length → (nth zs i).sz ≤ S) : ∀ k, k < zs.length → (psum zs k).sz ≤ (k + 1) * (S + 1)
  | 0, h => by have := hS 0 h; simp only [psum]; omega
  | k + 1, h => by
    have h1 := psum_sz zs S hS k (by omega)
    have h2 := hS (k + 1) h
    have h3 := Cq.sz_add (psum zs k) (nth zs (k + 1))
    rw [Nat.add_mul (k + 1) 1]
    simp only [psum]; omega
def stepsF (zs : List Cq) : List Cq := (List.range zs.length).map (psum zs)

theorem Steps_spec {V : View} {s : Sl} {zs : List Cq} (S : Nat) (h : NumsAt V s zs) (hn : zs.length ≤ 64) (hS : ∀ i, i < zs.length → (nth zs i).sz ≤ S) (hsz : 64 * (S + 1) ≤ 2 ^ 39) :
    CallV Try.prog n_transform_Steps_num_Num_ #[s.v] V fun v V' => ∃ r : Sl, v = .tuple #[r.v, .int .i64 0] ∧ NumsAt V' r (stepsF zs) := by
  have hl := h.len
  refine transform_Steps_num_Num__vc s V _ (fun _ x V' => 0 ≤ x.t14 ∧ x.t14 ≤ zs.length ∧ NumsIn V' x.o11 (filled zs.length x.t14.toNat (psum zs))) (fun _ x _ => zs.length - x.t14.toNat)
    ⟨fun h => ?_, fun _ => ⟨⟨by omega, by omega, by omega, by omega⟩, ⟨Int.le_refl 0, Int.natCast_nonneg _, ?_⟩, ?_⟩⟩
  · exfalso; simp [hl] at h; omega
  · rw [Int.toNat_natCast, hl]
    show NumsIn V _ (filled zs.length 0 _)
    rw [filled_zero]; exact NumsIn.zeros _ _
  rintro ⟨t, o⟩ V1 l1 ⟨h0, h1, ho⟩
  dsimp only at h0 h1 ho ⊢
  rw [Int.toNat_natCast, hl]
  refine ⟨fun hlt => ?_, fun hge => ?_⟩
  · simp only [decide_eq_true_eq] at hlt
    have hk : t.toNat < zs.length := by omega
    obtain ⟨hb3, x3, hx3, hs3, hn3⟩ := (h.le l1).get h0 hk
    rw [hl] at hb3
    have hfl : (filled zs.length t.toNat (psum zs)).length = zs.length := filled_length (by omega) _
    have s1 := ho.set (i := t.toNat) (by rw [hfl]; exact hk) hn3
    have e : IntKind.i64.wrap (t + 1) = t + 1 := i64w (by omega) (by omega)
    have e2 : (t + 1).toNat = t.toNat + 1 := by omega
    refine ⟨hb3, x3, hx3, hs3, ⟨h0, hlt⟩, Cells.room ho (by rw [hfl]; exact hk), fun hp => ?_, fun hz => ?_⟩
    · simp only [gt_iff_lt, decide_eq_true_eq] at hp
      have e3 : IntKind.i64.wrap (t - 1) = t - 1 := i64w (by omega) (by omega)
      have e4 : (t - 1).toNat = t.toNat - 1 := by omega
      rw [e, e3, e4]
      obtain ⟨x4, hx4, hn4⟩ := s1.cut (i := t.toNat - 1) (by rw [List.length_set, hfl]; omega)
      have en : nth ((filled zs.length t.toNat (psum zs)).set t.toNat (nth zs t.toNat)) (t.toNat - 1) = psum zs (t.toNat - 1) := by
        unfold nth
        rw [List.getD, List.getElem?_set_ne (by omega)]
        unfold filled
        rw [List.getElem?_append_left (by simp; omega)]
        simp only [List.getElem?_map]
        rw [List.getElem?_range (by omega)]
        rfl
      rw [en] at hn4
      have z1 := psum_sz zs S hS (t.toNat - 1) (by omega)
      have z2 : (t.toNat - 1 + 1) * (S + 1) ≤ 64 * (S + 1) := Nat.mul_le_mul_right _ (by omega)
      have z3 := hS _ hk
      refine ⟨⟨by omega, by omega⟩, x4, hx4, hb3, x3, hx3, hs3, (Num_Add_spec hn4 hn3 (by omega) (by omega)).mono fun v V2 l2 ⟨r1, hv, hr1⟩ => ⟨r1, hv, ⟨h0, hlt⟩, Cells.room s1 (by rw [List.length_set, hfl]; exact hk), ⟨by omega, by omega, ?_⟩, by omega⟩⟩
      have s2 := (s1.le l2).set (i := t.toNat) (by rw [List.length_set, hfl]; exact hk) hr1
      rw [List.set_set] at s2
      have ep : psum zs (t.toNat - 1) + nth zs t.toNat = psum zs t.toNat := by
        obtain ⟨k, hk2⟩ : ∃ k, t.toNat = k + 1 := ⟨t.toNat - 1, by omega⟩
        rw [hk2]; rfl
      rw [ep, filled_set hk] at s2
      rw [e2]; exact s2
    · simp only [gt_iff_lt, decide_eq_false_iff_not] at hz
      have ht0 : t.toNat = 0 := by omega
      rw [e]
      refine ⟨⟨by omega, by omega, ?_⟩, by omega⟩
      have ep : nth zs t.toNat = psum zs t.toNat := by rw [ht0]; rfl
      rw [ep, filled_set hk] at s1
      rw [e2]; exact s1
  · simp only [decide_eq_false_iff_not] at hge
    intro b V3 l3 hb
    have e : t.toNat = zs.length := by omega
    rw [e, filled_all] at ho
    exact ⟨_, rfl, ListAt.of_made (zs := stepsF zs) hb (ho.le l3) (by simp [stepsF])⟩
end Go.Proofs.Ytnbjnokgmeamdaa
