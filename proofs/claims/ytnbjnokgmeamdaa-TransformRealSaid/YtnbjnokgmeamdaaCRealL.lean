/- The call of TransformReal returns true. -/
import Derived.Test.YtnbjnokgmeamdaaCReal
namespace Go.Proofs.Ytnbjnokgmeamdaa
open Go Go.Vc Go.Proofs

theorem zero_re : Cq.zero.re = 0 := rfl
theorem zero_im : Cq.zero.im = 0 := rfl
theorem real2 {d : Cq} (hd : d.im = 0) : (∀ i, i < 2 ^ 1 → (nth (sharesF (stageF 1 [d, Cq.zero] (conjF (onesF 1)))) i).im = 0) ∧ psum (sharesF (stageF 1 [d, Cq.zero] (conjF (onesF 1)))) 1 = d := by
  obtain ⟨q3, q4⟩ := part2
  have e : sharesF (stageF 1 [d, Cq.zero] (conjF (onesF 1))) = [(d + Cq.zero * ⟨1, 0⟩) * partQ 2, (d - Cq.zero * ⟨1, 0⟩) * partQ 2] := by
    show sharesF (stageF 1 [d, Cq.zero] (conjF one2)) = _
    rw [conj2]; unfold one2; rw [stage2, shares2]
  rw [e]
  refine ⟨fun i hi => ?_, ?_⟩
  · have : i = 0 ∨ i = 1 := by omega
    rcases this with rfl | rfl
    · show ((d + Cq.zero * ⟨1, 0⟩) * partQ 2).im = 0
      simp only [Cq.mul_re, Cq.mul_im, Cq.add_re, Cq.add_im, q3, q4, zero_re, zero_im, hd]; grind
    · show ((d - Cq.zero * ⟨1, 0⟩) * partQ 2).im = 0
      simp only [Cq.mul_re, Cq.mul_im, Cq.sub_re, Cq.sub_im, q3, q4, zero_re, zero_im, hd]; grind
  · show (d + Cq.zero * ⟨1, 0⟩) * partQ 2 + (d - Cq.zero * ⟨1, 0⟩) * partQ 2 = d
    refine Cq.ext' ?_ ?_ <;> simp only [Cq.mul_re, Cq.mul_im, Cq.add_re, Cq.add_im, Cq.sub_re, Cq.sub_im, q3, q4, zero_re, zero_im, hd] <;> grind
theorem real4 {d a : Cq} (hd : d.im = 0) : (∀ i, i < 2 ^ 2 → (nth (sharesF (stageF 2 [d, a, Cq.zero, a.conj] (conjF (onesF 2)))) i).im = 0) ∧ psum (sharesF (stageF 2 [d, a, Cq.zero, a.conj] (conjF (onesF 2)))) 3 = d := by
  obtain ⟨q1, q2⟩ := part4
  obtain ⟨z0, z1, z2, z3, e, e0, e1, e2, e3⟩ : ∃ z0 z1 z2 z3 : Cq, sharesF (stageF 2 [d, a, Cq.zero, a.conj] (conjF (onesF 2))) = [z0, z1, z2, z3] ∧
      z0 = ((d + Cq.zero * ⟨1, 0⟩) + (a + a.conj * ⟨1, 0⟩) * ⟨1, 0⟩) * partQ 4 ∧ z1 = ((d - Cq.zero * ⟨1, 0⟩) + (a - a.conj * ⟨1, 0⟩) * ⟨0, 1⟩) * partQ 4 ∧
      z2 = ((d + Cq.zero * ⟨1, 0⟩) - (a + a.conj * ⟨1, 0⟩) * ⟨1, 0⟩) * partQ 4 ∧ z3 = ((d - Cq.zero * ⟨1, 0⟩) - (a - a.conj * ⟨1, 0⟩) * ⟨0, 1⟩) * partQ 4 := by
    refine ⟨_, _, _, _, ?_, rfl, rfl, rfl, rfl⟩
    show sharesF (stageF 2 [d, a, Cq.zero, a.conj] (conjF one4)) = _
    rw [conj4]; unfold one4c; rw [stage4, shares4]
  rw [e]
  have i0 : z0.im = 0 := by rw [e0]; simp only [Cq.mul_re, Cq.mul_im, Cq.add_re, Cq.add_im, Cq.sub_re, Cq.sub_im, Cq.conj_re, Cq.conj_im, q1, q2, zero_re, zero_im, hd]; grind
  have i1 : z1.im = 0 := by rw [e1]; simp only [Cq.mul_re, Cq.mul_im, Cq.add_re, Cq.add_im, Cq.sub_re, Cq.sub_im, Cq.conj_re, Cq.conj_im, q1, q2, zero_re, zero_im, hd]; grind
  have i2 : z2.im = 0 := by rw [e2]; simp only [Cq.mul_re, Cq.mul_im, Cq.add_re, Cq.add_im, Cq.sub_re, Cq.sub_im, Cq.conj_re, Cq.conj_im, q1, q2, zero_re, zero_im, hd]; grind
  have i3 : z3.im = 0 := by rw [e3]; simp only [Cq.mul_re, Cq.mul_im, Cq.add_re, Cq.add_im, Cq.sub_re, Cq.sub_im, Cq.conj_re, Cq.conj_im, q1, q2, zero_re, zero_im, hd]; grind
  refine ⟨fun i hi => ?_, ?_⟩
  · have : i = 0 ∨ i = 1 ∨ i = 2 ∨ i = 3 := by omega
    rcases this with rfl | rfl | rfl | rfl
    · exact i0
    · exact i1
    · exact i2
    · exact i3
  · show z0 + z1 + z2 + z3 = d
    refine Cq.ext' ?_ ?_
    · rw [e0, e1, e2, e3]
      simp only [Cq.mul_re, Cq.mul_im, Cq.add_re, Cq.add_im, Cq.sub_re, Cq.sub_im, Cq.conj_re, Cq.conj_im, q1, q2, zero_re, zero_im, hd]; grind
    · simp only [Cq.add_im, i0, i1, i2, i3, hd]; grind

theorem ratQ_im {a b : Int} : (ratQ ⟨a, 0, b⟩).im = 0 := by
  unfold ratQ
  split
  · rfl
  · simp [Rat.div_def]

theorem TransformReal_spec {V : View} {s : Sl} {rs : List RatV} {one : Bool} {dc : RatV} (h : RatsAt V s rs) (hr : rs.length < 2 ^ 64) (hdc : ratI dc) :
    CallV Try.prog n_waveportlaw07_TransformReal #[s.v, .bool one, dc.val] V fun v V' => v = .bool true := by
  let d : Cq := ratQ ⟨dc.re, 0, dc.den⟩
  have hdi : ratI ⟨dc.re, 0, dc.den⟩ := ⟨hdc.1, ⟨(by decide : (-9223372036854775808 : Int) ≤ 0), (by decide : (0 : Int) ≤ 9223372036854775807)⟩, hdc.2.2⟩
  have hdz : d.sz ≤ 64 := ratQ_sz hdi
  have hdim : d.im = 0 := ratQ_im
  refine waveportlaw07_TransformReal_vc s one dc V _ (fun _ x V' => ∃ zs, NumsAt V' x.t7 zs ∧ (zs = [] ∨ ∃ a, zs = [a] ∧ a.sz ≤ 5)) (fun _ _ _ => True) (fun c x _ => 0 ≤ x.t82 ∧ x.t82 ≤ c.t81) (fun c x _ => (c.t81 - x.t82).toNat) ⟨⟨fun _ => ?_, fun _ => ⟨[], ListAt.nil, .inl rfl⟩⟩, ?_⟩
  · refine (repeated_spec (n := 1) h hr (by decide)).mono fun v V2 l2 ⟨r, hv, hrr⟩ => ⟨r, hv, ?_⟩
    refine (law1_List_spec hrr (fun r hr => (repeatedR_tame rs _ r hr).ok) (by simp [repeatedR])).mono fun v V3 l3 ⟨x, hv, hx⟩ => ⟨x, hv, exactQ rs 1, hx, .inr ?_⟩
    obtain ⟨a, e⟩ := one_of (exactQ_length rs 1)
    refine ⟨a, e, ?_⟩
    have := exactQ_sz rs 1 0 (by decide)
    rw [e] at this; exact this
  rintro ⟨t7⟩ V1 l1 ⟨zs, hzs, hcase⟩
  dsimp only at hzs ⊢
  refine (law1_Of_spec hdi).mono fun v V4 l4 ⟨r3, hv, h3⟩ => ⟨r3, hv, ?_⟩
  have hz4 := hzs.le l4
  obtain ⟨M, y, hM, hyl, harg, hext, hysz, hreal, hsum⟩ : ∃ (M : Nat) (y : List Cq), (M = 1 ∨ M = 2) ∧ y.length = 2 ^ M ∧ IntKind.i64.wrap (IntKind.i64.wrap (2 * (t7.len : Int)) + 2) = ((2 ^ M : Nat) : Int) ∧
      (CallV Try.prog n_transform_Extend_num_Num_ #[t7.v, r3.val] V4 fun v V' => ∃ r : Sl, v = .tuple #[r.v, .int .i64 0] ∧ NumsAt V' r y) ∧ (∀ i, i < 2 ^ M → (nth y i).sz ≤ 64) ∧
      (∀ i, i < 2 ^ M → (nth (sharesF (stageF M y (conjF (onesF M)))) i).im = 0) ∧ psum (sharesF (stageF M y (conjF (onesF M)))) (2 ^ M - 1) = d := by
    have hz1 := Cq.sz_zero
    rcases hcase with rfl | ⟨a, rfl, ha⟩
    · have hl : t7.len = 0 := hz4.len
      refine ⟨1, [d, Cq.zero], .inl rfl, rfl, by rw [hl]; decide, Extend_nil hz4 h3, fun i hi => ?_, (real2 hdim).1, (real2 hdim).2⟩
      have : i = 0 ∨ i = 1 := by omega
      rcases this with rfl | rfl
      · exact hdz
      · show Cq.zero.sz ≤ 64; omega
    · have hl : t7.len = 1 := hz4.len
      refine ⟨2, [d, a, Cq.zero, a.conj], .inr rfl, rfl, by rw [hl]; decide, Extend_one hz4 h3, fun i hi => ?_, (real4 hdim).1, (real4 hdim).2⟩
      have : i = 0 ∨ i = 1 ∨ i = 2 ∨ i = 3 := by omega
      rcases this with rfl | rfl | rfl | rfl
      · exact hdz
      · show a.sz ≤ 64; omega
      · show Cq.zero.sz ≤ 64; omega
      · show a.conj.sz ≤ 64; rw [Cq.sz_conj]; omega
  have hM2 : M ≤ 2 := by omega
  have hp4 : 2 ^ M ≤ 4 := by
    have : 2 ^ M ≤ 2 ^ 2 := Nat.pow_le_pow_right (by omega) hM2
    omega
  have hp1 : 1 ≤ 2 ^ M := Nat.pow_pos (by omega)
  have hol := onesF_length hM2
  have hos := onesF_sz hM2
  have hcl : (conjF (onesF M)).length = 2 ^ M := by rw [conjF_length, hol]
  have hcs := conjF_sz (onesF M) 4 (by rw [hol]; exact hos)
  rw [hol] at hcs
  have hbs := stageF_sz M y (conjF (onesF M)) 64 4 hyl hcl hysz hcs
  have hbl := stageF_length M y (conjF (onesF M))
  have hmul : 2 ^ M * (64 + 4 + 2) ≤ 4 * 70 := Nat.mul_le_mul_right _ hp4
  have hus := sharesF_sz (stageF M y (conjF (onesF M))) 280 (by rw [hbl]; omega) (by rw [hbl]; intro i hi; have := hbs i hi; omega)
  rw [hbl] at hus
  have hul : (sharesF (stageF M y (conjF (onesF M)))).length = 2 ^ M := by rw [sharesF_length, hbl]
  refine hext.mono fun v V5 l5 ⟨r4, hv, h4⟩ => ⟨r4, 0, hv, ?_⟩
  rw [harg]
  refine (transform_Exact_spec (n := 2 ^ M) (by rcases hM with rfl | rfl <;> simp)).mono fun v V6 l6 ⟨r6, hv, h6⟩ => ⟨r6, 0, hv, ?_⟩
  rw [rootsQ_ones hM2] at h6
  have hl6 : r6.len = 2 ^ M := by rw [h6.len, hol]
  refine (FastBack_spec 64 4 (by omega) hyl hol (h4.le l6) h6 hysz hos (by decide)).mono fun v V7 l7 ⟨r8, hv, h8⟩ => ⟨r8, 0, hv, ?_⟩
  have hl8 : r8.len = 2 ^ M := by rw [h8.len, hul]
  refine (Steps_spec 289 h8 (by rw [hul]; omega) (by rw [hul]; exact hus) (by decide)).mono fun v V8 l8 ⟨r10, hv, h10⟩ => ⟨r10, 0, hv, ?_⟩
  have hsl : (stepsF (sharesF (stageF M y (conjF (onesF M))))).length = 2 ^ M := by simp [stepsF, hul]
  have hl10 : r10.len = 2 ^ M := by rw [h10.len, hsl]
  refine ⟨⟨fun h => absurd h (by simp), fun _ => ⟨fun h => absurd h (by simp), fun _ => ⟨fun h => absurd h (by simp), fun _ => ⟨fun h => absurd h (by simp), fun _ => ⟨fun h => ?_, fun _ => ⟨fun h => ?_, fun _ => trivial⟩⟩⟩⟩⟩⟩, ?_⟩
  · exfalso; simp [hl10, hl6] at h
  · exfalso
    have h : (r10.len : Int) = 0 := by simpa using h
    omega
  intro _ V9 l9 _
  refine ⟨⟨Int.le_refl 0, Int.natCast_nonneg _⟩, ?_⟩
  rintro ⟨t⟩ V10 l10 ⟨h0, ht⟩
  dsimp only at h0 ht ⊢
  refine ⟨fun hlt => ?_, fun hge => ?_⟩
  · simp only [decide_eq_true_eq] at hlt
    have hk : t.toNat < 2 ^ M := by omega
    obtain ⟨hb, x, hx, hs, hnx⟩ := (h8.le (View.le_trans l8 (View.le_trans l9 l10))).get h0 (by rw [hul]; exact hk)
    refine ⟨hb, x, hx, hs, (Num_Real_spec hnx).mono fun v V11 l11 hv => ⟨_, hv, fun h => ?_, fun _ => ?_⟩⟩
    · exfalso
      rw [hreal _ hk] at h
      simp at h
    · have e : IntKind.i64.wrap (t + 1) = t + 1 := i64w (by omega) (by omega)
      rw [e]
      exact ⟨⟨by omega, by omega⟩, by show ((r8.len : Int) - (t + 1)).toNat < ((r8.len : Int) - t).toNat; omega⟩
  · have e : IntKind.i64.wrap ((r10.len : Int) - 1) = ((2 ^ M - 1 : Nat) : Int) := by rw [i64w (by omega) (by omega)]; omega
    rw [e]
    obtain ⟨hb, x, hx, hs, hnx⟩ := (h10.le (View.le_trans l9 l10)).get (t := ((2 ^ M - 1 : Nat) : Int)) (Int.natCast_nonneg _) (by rw [hsl, Int.toNat_natCast]; omega)
    rw [Int.toNat_natCast] at hnx
    have en : nth (stepsF (sharesF (stageF M y (conjF (onesF M))))) (2 ^ M - 1) = d := by
      unfold stepsF
      rw [nth_map (by rw [hul]; omega)]; exact hsum
    rw [en] at hnx
    have L : View.le V4 V10 := View.le_trans l5 (View.le_trans l6 (View.le_trans l7 (View.le_trans l8 (View.le_trans l9 l10))))
    refine ⟨hb, x, hx, hs, (Num_Same_spec hnx (h3.le L) (by omega) (by show d.sz ≤ _; omega)).mono fun v V12 l12 hv => ⟨_, hv, fun _ => awake_spec.mono fun v V13 _ hv => ⟨_, hv, rfl⟩, fun h => ?_⟩⟩
    exfalso
    have : (decide (d = ratQ ⟨dc.re, 0, dc.den⟩)) = true := decide_eq_true rfl
    rw [this] at h; simp at h
end Go.Proofs.Ytnbjnokgmeamdaa
