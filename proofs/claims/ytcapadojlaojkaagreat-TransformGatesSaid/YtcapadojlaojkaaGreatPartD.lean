/- Part of the proof; it has the parts CNum1 CTr1 COpen COpen2 COpen3 GGt CTr2 CFor CBack CGate CR1 CR2 CR3a. -/
import Derived.Test.YtcapadojlaojkaaGreatPartC
import Derived.Deep.Slices
namespace Go.Proofs.YtcapadojlaojkaaGreat
open Go Go.Vc Go.Proofs

theorem nat_gcd_spec {V : View} {s t : Sl} {a b : Nat} (hs : NatAt V s a) (ht : NatAt V t b) (ha : wn a ≤ 2 ^ 43) (hb : wn b ≤ 2 ^ 43) :
    CallV Tryz.prog n_nat_gcd #[s.v, t.v] V fun v V' => ∃ r : Sl, v = r.v ∧ NatAt V' r (Nat.gcd a b) := by
  refine nat_gcd_vc s t V _ (fun _ x V' => ∃ a' b', NatAt V' x.t0 a' ∧ NatAt V' x.t1 b' ∧ wn a' ≤ 2 ^ 43 ∧ wn b' ≤ 2 ^ 43 ∧ Nat.gcd a' b' = Nat.gcd a b) (fun _ x V' => natVal V' x.t1) ⟨⟨a, b, hs, ht, ha, hb, rfl⟩, ?_⟩
  rintro ⟨x, y⟩ V1 l1 ⟨a', b', hx, hy, wa, wb, hg⟩
  simp only at hx hy ⊢
  have hyl := hy.len
  refine ⟨fun hp => ?_, fun hp => ?_⟩
  · simp only [gt_iff_lt, decide_eq_true_eq] at hp
    have hb0 : b' ≠ 0 := fun e => by rw [← hy.len_zero] at e; omega
    refine (nat_div_spec hx hy wa hb0).mono fun v V2 l2 ⟨q, r, hv, hq, hr⟩ => ⟨q, r, hv, ?_⟩
    have hlt : a' % b' < b' := Nat.mod_lt _ (by omega)
    have hwr : wn (a' % b') ≤ wn b' := wn_mono (Nat.le_of_lt hlt)
    refine ⟨⟨b', a' % b', hy.le l2, hr, wb, by omega, ?_⟩, ?_⟩
    · rw [Nat.gcd_comm, ← Nat.gcd_rec, Nat.gcd_comm]; exact hg
    · rw [natVal_eq hr, natVal_eq hy]; exact hlt
  · simp only [gt_iff_lt, decide_eq_false_iff_not] at hp
    have hb0 : b' = 0 := hy.len_zero.1 (by omega)
    subst hb0
    rw [Nat.gcd_zero_right] at hg
    exact ⟨x, rfl, by rw [← hg]; exact hx⟩

theorem num_wholeOf_spec {V : View} {s : Sl} {n : Nat} (neg : Bool) (h : NatAt V s n) :
    CallV Tryz.prog n_num_wholeOf #[.bool neg, s.v] V fun v V' => ∃ r : WhV, v = r.val ∧ IntAt V' r (if neg = true then -(n : Int) else n) := by
  have hl := h.len_zero
  refine num_wholeOf_vc neg s V _ ⟨fun hn => ⟨_, rfl, ?_, ?_⟩, fun hn => ⟨_, rfl, ?_, ?_⟩⟩
  · rw [if_pos hn]; simp only [gt_iff_lt, decide_eq_decide]; omega
  · rw [if_pos hn]; simpa using h
  · rw [if_neg (by simp [hn])]; symm; simp only [decide_eq_false_iff_not]; omega
  · rw [if_neg (by simp [hn])]; simpa using h

theorem num_of64_spec {V : View} {n : Int} (h0 : -9223372036854775808 ≤ n) (h1 : n ≤ 9223372036854775807) :
    CallV Tryz.prog n_num_of64 #[.int .i64 n] V fun v V' => ∃ r : WhV, v = r.val ∧ IntAt V' r n := by
  refine num_of64_vc n V _ ⟨fun hn => ?_, fun hn => ?_⟩
  · simp only [decide_eq_true_eq] at hn
    have e : IntKind.u64.wrap (0 - IntKind.u64.wrap n) = -n := by rw [u64m, u64m]; omega
    rw [e]
    refine (num_natOf_spec (by omega) (by omega)).mono fun v V1 _ ⟨r, hv, hr⟩ => ⟨r, hv, _, rfl, by simp [hn], ?_⟩
    have e2 : n.natAbs = (-n).toNat := by omega
    rw [e2]; exact hr
  · simp only [decide_eq_false_iff_not] at hn
    rw [u64w (by omega) (by omega)]
    refine (num_natOf_spec (by omega) (by omega)).mono fun v V1 _ ⟨r, hv, hr⟩ => ⟨r, hv, _, rfl, by simp [hn], ?_⟩
    have e2 : n.natAbs = n.toNat := by omega
    rw [e2]; exact hr

theorem whole_minus_spec {V : View} {x : WhV} {a : Int} (h : IntAt V x a) :
    CallV Tryz.prog n_whole_minus #[x.val] V fun v V' => ∃ r : WhV, v = r.val ∧ IntAt V' r (-a) := by
  refine whole_minus_vc x V _ ((num_wholeOf_spec (!x.neg) h.2).mono fun v V1 _ ⟨r, hv, hr⟩ => ⟨r, hv, r, rfl, ?_⟩)
  have e : (if (!x.neg) = true then -(a.natAbs : Int) else (a.natAbs : Int)) = -a := by
    rw [h.1]; simp only [Bool.not_eq_true', decide_eq_false_iff_not]; split <;> omega
  rw [e] at hr; exact hr

theorem whole_plus_spec {V : View} {x y : WhV} {a b : Int} (hx : IntAt V x a) (hy : IntAt V y b) (ha : wn a.natAbs ≤ 2 ^ 43) (hb : wn b.natAbs ≤ 2 ^ 43) :
    CallV Tryz.prog n_whole_plus #[x.val, y.val] V fun v V' => ∃ r : WhV, v = r.val ∧ IntAt V' r (a + b) := by
  have h1 := hx.1
  have h2 := hy.1
  refine whole_plus_vc x y V _ ⟨fun hs => ?_, fun hs => ?_⟩
  · refine (nat_add_spec hx.2 hy.2 (by omega) (by omega)).mono fun v V1 l1 ⟨r, hv, hr⟩ => ⟨r, hv, ?_⟩
    refine (num_wholeOf_spec x.neg hr).mono fun v V2 _ ⟨w, hv, hw⟩ => ⟨w, hv, w, rfl, ?_⟩
    have e : (if x.neg = true then -((a.natAbs + b.natAbs : Nat) : Int) else ((a.natAbs + b.natAbs : Nat) : Int)) = a + b := by
      rw [h1, h2] at hs; rw [h1]
      by_cases p : a < 0 <;> by_cases q : b < 0 <;> simp [p, q] at hs ⊢ <;> omega
    rw [e] at hw; exact hw
  · refine (nat_cmp_spec hx.2 hy.2 (by omega)).mono fun v V1 l1 hv => ⟨_, hv, fun hc => ?_, fun hc => ?_⟩
    · have hc : b.natAbs ≤ a.natAbs := by
        rcases Nat.lt_or_ge a.natAbs b.natAbs with h | h
        · rw [if_pos h] at hc; simp at hc
        · exact h
      refine (nat_sub_spec (hx.2.le l1) (hy.2.le l1) (by omega) hc).mono fun v V2 l2 ⟨r, hv, hr⟩ => ⟨r, hv, ?_⟩
      refine (num_wholeOf_spec x.neg hr).mono fun v V3 _ ⟨w, hv, hw⟩ => ⟨w, hv, w, rfl, ?_⟩
      have e : (if x.neg = true then -((a.natAbs - b.natAbs : Nat) : Int) else ((a.natAbs - b.natAbs : Nat) : Int)) = a + b := by
        rw [h1, h2] at hs; rw [h1]
        by_cases p : a < 0 <;> by_cases q : b < 0 <;> simp [p, q] at hs ⊢ <;> omega
      rw [e] at hw; exact hw
    · have hc : a.natAbs ≤ b.natAbs := by
        rcases Nat.lt_or_ge b.natAbs a.natAbs with h | h
        · rw [if_neg (by omega), if_neg (by omega)] at hc; simp at hc
        · exact h
      refine (nat_sub_spec (hy.2.le l1) (hx.2.le l1) (by omega) hc).mono fun v V2 l2 ⟨r, hv, hr⟩ => ⟨r, hv, ?_⟩
      refine (num_wholeOf_spec y.neg hr).mono fun v V3 _ ⟨w, hv, hw⟩ => ⟨w, hv, w, rfl, ?_⟩
      have e : (if y.neg = true then -((b.natAbs - a.natAbs : Nat) : Int) else ((b.natAbs - a.natAbs : Nat) : Int)) = a + b := by
        rw [h1, h2] at hs; rw [h2]
        by_cases p : a < 0 <;> by_cases q : b < 0 <;> simp [p, q] at hs ⊢ <;> omega
      rw [e] at hw; exact hw

theorem sign_mul (x y a b : Int) (hx : x = if a < 0 then -1 else 1) (hy : y = if b < 0 then -1 else 1) : a * b = x * y * (a.natAbs * b.natAbs : Nat) := by
  have ha : a = x * a.natAbs := by rw [hx]; split <;> omega
  have hb : b = y * b.natAbs := by rw [hy]; split <;> omega
  rw [Int.natCast_mul]
  conv => lhs; rw [ha, hb]
  grind

theorem whole_times_spec {V : View} {x y : WhV} {a b : Int} (hx : IntAt V x a) (hy : IntAt V y b) (ha : wn a.natAbs ≤ 2 ^ 43) (hb : wn b.natAbs ≤ 2 ^ 43) :
    CallV Tryz.prog n_whole_times #[x.val, y.val] V fun v V' => ∃ r : WhV, v = r.val ∧ IntAt V' r (a * b) := by
  refine whole_times_vc x y V _ ((nat_mul_spec hx.2 hy.2 (by omega) (by omega)).mono fun v V1 l1 ⟨r, hv, hr⟩ => ⟨r, hv, ?_⟩)
  refine (num_wholeOf_spec (!(x.neg == y.neg)) hr).mono fun v V2 _ ⟨w, hv, hw⟩ => ⟨w, hv, w, rfl, ?_⟩
  have e : (if (!(x.neg == y.neg)) = true then -((a.natAbs * b.natAbs : Nat) : Int) else ((a.natAbs * b.natAbs : Nat) : Int)) = a * b := by
    rw [sign_mul _ _ a b rfl rfl, hx.1, hy.1]
    by_cases p : a < 0 <;> by_cases q : b < 0 <;> simp [p, q]
  rw [e] at hw; exact hw

theorem whole_scaled_spec {V : View} {x : WhV} {s : Sl} {a : Int} {n : Nat} (hx : IntAt V x a) (hs : NatAt V s n) (ha : wn a.natAbs ≤ 2 ^ 43) (hb : wn n ≤ 2 ^ 43) :
    CallV Tryz.prog n_whole_scaled #[x.val, s.v] V fun v V' => ∃ r : WhV, v = r.val ∧ IntAt V' r (a * n) := by
  refine whole_scaled_vc x s V _ ((nat_mul_spec hx.2 hs (by omega) (by omega)).mono fun v V1 l1 ⟨r, hv, hr⟩ => ⟨r, hv, ?_⟩)
  refine (num_wholeOf_spec x.neg hr).mono fun v V2 _ ⟨w, hv, hw⟩ => ⟨w, hv, w, rfl, ?_⟩
  have e : (if x.neg = true then -((a.natAbs * n : Nat) : Int) else ((a.natAbs * n : Nat) : Int)) = a * n := by
    conv => rhs; rw [hx.val]
    rw [Int.natCast_mul]; split
    · rw [Int.neg_mul]
    · rfl
  rw [e] at hw; exact hw

theorem whole_cmp_spec {V : View} {x y : WhV} {a b : Int} (hx : IntAt V x a) (hy : IntAt V y b) (ha : wn a.natAbs ≤ 2 ^ 43) (hb : wn b.natAbs ≤ 2 ^ 43) :
    CallV Tryz.prog n_whole_cmp #[x.val, y.val] V fun v _ => v = .int .i64 (cmpZ a b) := by
  refine whole_cmp_vc x y V _ ((whole_minus_spec hy).mono fun v V1 l1 ⟨r, hv, hr⟩ => ⟨r, hv, ?_⟩)
  refine (whole_plus_spec (hx.le l1) hr ha (by rw [Int.natAbs_neg]; exact hb)).mono fun v V2 l2 ⟨w, hv, hw⟩ => ⟨w, hv, fun h => ?_, fun h => ?_⟩
  · have : a + -b < 0 := by have := hw.1; rw [h] at this; simpa using this
    rw [cmpZ_lt (by omega)]
  · have h1 : ¬ a + -b < 0 := by have := hw.1; rw [h] at this; simpa using this
    have h2 := hw.2.len_zero
    by_cases e : a = b
    · have : w.mag.len = 0 := h2.2 (by omega)
      rw [cmpZ_eq e, this]; rfl
    · have : w.mag.len ≠ 0 := fun h => by have := h2.1 h; omega
      rw [cmpZ_gt (by omega)]
      congr 1; split <;> omega

/-- (a + b i)/d in lowest terms. -/
theorem num_over_spec {V : View} {x y : WhV} {s : Sl} {z : Cq} {a b : Int} {d : Nat} (hx : IntAt V x a) (hy : IntAt V y b) (hs : NatAt V s d) (hz : Rep z a b d) (ha : wn a.natAbs ≤ 2 ^ 43) (hb : wn b.natAbs ≤ 2 ^ 43) (hd : wn d ≤ 2 ^ 43) :
    CallV Tryz.prog n_num_over #[x.val, y.val, s.v] V fun v V' => ∃ r : NumV, v = r.val ∧ NumAt V' r z := by
  obtain ⟨e1, e2, e3⟩ := hz.eqs
  have hp := gcd3_pos a b hz.pos
  have d1 := gcd3_dvd1 a b d
  have d2 := gcd3_dvd2 a b d
  have d3 := gcd3_dvd3 a b d
  refine num_over_vc x y s V _ ((nat_gcd_spec hx.2 hy.2 ha hb).mono fun v V1 l1 ⟨r1, hv, h1⟩ => ⟨r1, hv, ?_⟩)
  have hw1 : wn (Nat.gcd a.natAbs b.natAbs) ≤ 2 ^ 43 := by
    rcases Nat.eq_zero_or_pos a.natAbs with h | h
    · rw [h, Nat.gcd_zero_left]; exact hb
    · exact Nat.le_trans (wn_mono (Nat.le_of_dvd h (Nat.gcd_dvd_left _ _))) ha
  refine (nat_gcd_spec h1 (hs.le l1) hw1 hd).mono fun v V2 l2 ⟨r2, hv, h2⟩ => ⟨r2, hv, ?_⟩
  have hg : Nat.gcd (Nat.gcd a.natAbs b.natAbs) d = gcd3 a b d := rfl
  rw [hg] at h2
  refine (nat_one_spec h2).mono fun v V3 l3 hv => ⟨_, hv, fun hn => ?_, fun hn => ?_⟩
  · have l13 := View.le_trans l1 (View.le_trans l2 l3)
    refine (nat_div_spec (hx.2.le l13) (h2.le l3) ha (by omega)).mono fun v V4 l4 ⟨q1, m1, hv, hq1, _⟩ => ⟨q1, m1, hv, ?_⟩
    refine (nat_div_spec (hy.2.le (View.le_trans l13 l4)) (h2.le (View.le_trans l3 l4)) hb (by omega)).mono fun v V5 l5 ⟨q2, m2, hv, hq2, _⟩ => ⟨q2, m2, hv, ?_⟩
    have l45 := View.le_trans l4 l5
    refine (nat_div_spec (hs.le (View.le_trans l13 l45)) (h2.le (View.le_trans l3 l45)) hd (by omega)).mono fun v V6 l6 ⟨q3, m3, hv, hq3, _⟩ => ⟨q3, m3, hv, ?_⟩
    have f1 : IntAt V6 (WhV.mk x.neg q1) z.A := ⟨by rw [e1, div_lt_zero d1 hp]; exact hx.1, by rw [e1, natAbs_div d1]; exact hq1.le (View.le_trans l5 l6)⟩
    have f2 : IntAt V6 (WhV.mk y.neg q2) z.B := ⟨by rw [e2, div_lt_zero d2 hp]; exact hy.1, by rw [e2, natAbs_div d2]; exact hq2.le l6⟩
    refine (nat_one_spec hq3).mono fun v V7 l7 hv => ⟨_, hv, fun h => ⟨_, rfl, f1.le l7, f2.le l7, ?_⟩, fun h => ⟨_, rfl, f1.le l7, f2.le l7, ?_⟩⟩
    · simp only [decide_eq_true_eq] at h
      rw [e3, if_pos h]; exact NatAt.zero V7
    · simp only [decide_eq_false_iff_not] at h
      rw [e3, if_neg h]; exact hq3.le l7
  · simp only [Bool.not_eq_false', decide_eq_true_eq] at hn
    rw [hn] at e1 e2 e3
    simp only [Int.natCast_one, Int.ediv_one] at e1 e2
    rw [Nat.div_one] at e3
    have l13 := View.le_trans l1 (View.le_trans l2 l3)
    refine (nat_one_spec (hs.le l13)).mono fun v V7 l7 hv => ⟨_, hv, fun h => ⟨_, rfl, ?_, ?_, ?_⟩, fun h => ⟨_, rfl, ?_, ?_, ?_⟩⟩
    · rw [e1]; exact hx.le (View.le_trans l13 l7)
    · rw [e2]; exact hy.le (View.le_trans l13 l7)
    · simp only [decide_eq_true_eq] at h
      rw [e3, if_pos h]; exact NatAt.zero V7
    · rw [e1]; exact hx.le (View.le_trans l13 l7)
    · rw [e2]; exact hy.le (View.le_trans l13 l7)
    · simp only [decide_eq_false_iff_not] at h
      rw [e3, if_neg h]; exact hs.le (View.le_trans l13 l7)

theorem Num_den_spec {V : View} {x : NumV} {z : Cq} (h : NumAt V x z) : CallV Tryz.prog n_Num_den #[x.val] V fun v V' => ∃ r : Sl, v = r.v ∧ NatAt V' r z.D := by
  have hu := h.under
  have hl := hu.len_zero
  have hD := z.D_pos
  refine Num_den_vc x V _ ⟨fun h0 => ?_, fun h0 => ?_⟩
  · have h0 : x.under.len = 0 := by have : (x.under.len : Int) = 0 := (by simpa using h0); omega
    intro b V1 l1 _ hb
    have hz := hl.1 h0
    have h1 : z.D = 1 := by split at hz <;> omega
    refine ⟨_, rfl, ?_⟩
    rw [h1]
    have : dig 1 = [1] := by rw [dig_pos (by omega)]; simp [dig_zero]
    unfold NatAt; rw [this]
    exact Words.of_block (by rw [hb]; rfl) rfl (Nat.le_refl _) (by intro d hd; simp at hd; omega)
  · have h0 : x.under.len ≠ 0 := by have : ¬ (x.under.len : Int) = 0 := (by simpa using h0); omega
    refine ⟨_, rfl, ?_⟩
    have hz : ¬ (if z.D = 1 then 0 else z.D) = 0 := fun e => h0 (hl.2 e)
    split at hz
    · omega
    · rename_i h1; rw [if_neg h1] at hu; exact hu

theorem num_Int_spec {V : View} {n : Int} (h0 : -9223372036854775808 ≤ n) (h1 : n ≤ 9223372036854775807) :
    CallV Tryz.prog n_num_Int #[.int .i64 n] V fun v V' => ∃ r : NumV, v = r.val ∧ NumAt V' r ⟨(n : Rat), 0⟩ := by
  obtain ⟨e1, e2, e3⟩ := Cq.ofInt_eqs n
  refine num_Int_vc n V _ ((num_of64_spec h0 h1).mono fun v V1 _ ⟨r, hv, hr⟩ => ⟨r, hv, _, rfl, by rw [e1]; exact hr, by rw [e2]; exact IntAt.zero _, by rw [e3]; exact NatAt.zero _⟩)

theorem wn64 {n : Nat} (h : n ≤ 18446744073709551615) : wn n ≤ 2 ^ 43 := by
  have : wn n ≤ 2 := wn_le_of_lt (by omega)
  omega

/-- (p + q i)/d for d other than 0. -/
theorem num_New_spec {V : View} {p q d : Int} (p0 : -9223372036854775808 ≤ p) (p1 : p ≤ 9223372036854775807) (q0 : -9223372036854775808 ≤ q) (q1 : q ≤ 9223372036854775807) (d0 : -9223372036854775808 ≤ d) (d1 : d ≤ 9223372036854775807) (hd : d ≠ 0) :
    CallV Tryz.prog n_num_New #[.int .i64 p, .int .i64 q, .int .i64 d] V fun v V' => ∃ r : NumV, v = .tuple #[r.val, .int .i64 0] ∧ NumAt V' r ⟨(p : Rat) / (d : Rat), (q : Rat) / (d : Rat)⟩ := by
  refine num_New_vc p q d V _ ⟨fun h => ?_, fun _ => ?_⟩
  · exact absurd (by simpa using h) hd
  refine (num_of64_spec p0 p1).mono fun v V1 l1 ⟨a, hv, ha⟩ => ⟨a, hv, ?_⟩
  refine (num_of64_spec q0 q1).mono fun v V2 l2 ⟨b, hv, hb⟩ => ⟨b, hv, ?_⟩
  refine (num_of64_spec d0 d1).mono fun v V3 l3 ⟨c, hv, hc⟩ => ⟨c, hv, fun hn => ?_, fun hn => ?_⟩
  · have hneg : d < 0 := by have := hc.1; rw [hn] at this; simpa using this.symm
    refine (whole_minus_spec (ha.le (View.le_trans l2 l3))).mono fun v V4 l4 ⟨a', hv, ha'⟩ => ⟨a', hv, ?_⟩
    refine (whole_minus_spec (hb.le (View.le_trans l3 l4))).mono fun v V5 l5 ⟨b', hv, hb'⟩ => ⟨b', hv, ?_⟩
    refine (num_over_spec (ha'.le l5) hb' (hc.2.le (View.le_trans l4 l5)) ?_ (wn64 (by omega)) (wn64 (by omega)) (wn64 (by omega))).mono fun v V6 l6 ⟨r, hv, hr⟩ => ⟨r, hv, r, rfl, hr⟩
    have e : ((d.natAbs : Nat) : Rat) = -(d : Rat) := by
      have : (d.natAbs : Int) = -d := by omega
      rw [← Rat.intCast_natCast, this]; push_cast; rfl
    refine ⟨by omega, ?_, ?_⟩ <;> (simp only [e]; push_cast; rw [Rat.div_def, Rat.div_def]; grind)
  · have hpos : ¬ d < 0 := by have := hc.1; rw [hn] at this; simpa using this.symm
    refine (num_over_spec (ha.le (View.le_trans l2 l3)) (hb.le l3) hc.2 ?_ (wn64 (by omega)) (wn64 (by omega)) (wn64 (by omega))).mono fun v V6 l6 ⟨r, hv, hr⟩ => ⟨r, hv, r, rfl, hr⟩
    have e : ((d.natAbs : Nat) : Rat) = (d : Rat) := by
      have : (d.natAbs : Int) = d := by omega
      rw [← Rat.intCast_natCast, this]
    refine ⟨by omega, ?_, ?_⟩ <;> simp only [e]

/-- The sizes that the operations need. -/
theorem Cq.wA {z : Cq} (h : z.sz ≤ 2 ^ 40) : wn z.A.natAbs ≤ 2 ^ 35 := wn_bl (by have := z.szA; omega)
theorem Cq.wB {z : Cq} (h : z.sz ≤ 2 ^ 40) : wn z.B.natAbs ≤ 2 ^ 35 := wn_bl (by have := z.szB; omega)
theorem Cq.wD {z : Cq} (h : z.sz ≤ 2 ^ 40) : wn z.D ≤ 2 ^ 35 := wn_bl (by have := z.szD; omega)
theorem wn_muli {a b : Int} {k : Nat} (ha : wn a.natAbs ≤ k) (hb : wn b.natAbs ≤ k) : wn (a * b).natAbs ≤ 2 * k := by
  rw [Int.natAbs_mul]; have := wn_mul_le a.natAbs b.natAbs; omega
theorem wn_addi {a b : Int} {k : Nat} (ha : wn a.natAbs ≤ k) (hb : wn b.natAbs ≤ k) : wn (a + b).natAbs ≤ k + 1 := by
  have := wn_mono (Int.natAbs_add_le a b); have := wn_add_le a.natAbs b.natAbs; omega
theorem wn_negi {a : Int} {k : Nat} (ha : wn a.natAbs ≤ k) : wn (-a).natAbs ≤ k := by rw [Int.natAbs_neg]; exact ha

theorem Num_Add_spec {V : View} {x y : NumV} {z w : Cq} (hx : NumAt V x z) (hy : NumAt V y w) (hz : z.sz ≤ 2 ^ 40) (hw : w.sz ≤ 2 ^ 40) :
    CallV Tryz.prog n_Num_Add #[x.val, y.val] V fun v V' => ∃ r : NumV, v = r.val ∧ NumAt V' r (z + w) := by
  have zA := Cq.wA hz; have zB := Cq.wB hz; have zD := Cq.wD hz
  have wA := Cq.wA hw; have wB := Cq.wB hw; have wD := Cq.wD hw
  have zD' : wn (z.D : Int).natAbs ≤ 2 ^ 35 := zD
  have wD' : wn (w.D : Int).natAbs ≤ 2 ^ 35 := wD
  have s1 := wn_muli zA wD'; have s2 := wn_muli wA zD'; have s3 := wn_muli zB wD'; have s4 := wn_muli wB zD'
  have s5 := wn_addi s1 s2; have s6 := wn_addi s3 s4
  have s7 := wn_mul_le z.D w.D
  refine Num_Add_vc x y V _ ((Num_den_spec hx).mono fun v V1 l1 ⟨r1, hv, h1⟩ => ⟨r1, hv, ?_⟩)
  replace hx := hx.le l1; replace hy := hy.le l1
  refine (Num_den_spec hy).mono fun v V2 l2 ⟨r2, hv, h2⟩ => ⟨r2, hv, ?_⟩
  replace hx := hx.le l2; replace hy := hy.le l2; replace h1 := h1.le l2
  refine (whole_scaled_spec hx.re h2 (by omega) (by omega)).mono fun v V3 l3 ⟨r3, hv, h3⟩ => ⟨r3, hv, ?_⟩
  replace hx := hx.le l3; replace hy := hy.le l3; replace h1 := h1.le l3; replace h2 := h2.le l3
  refine (whole_scaled_spec hy.re h1 (by omega) (by omega)).mono fun v V4 l4 ⟨r4, hv, h4⟩ => ⟨r4, hv, ?_⟩
  replace hx := hx.le l4; replace hy := hy.le l4; replace h1 := h1.le l4; replace h2 := h2.le l4; replace h3 := h3.le l4
  refine (whole_plus_spec h3 h4 (by omega) (by omega)).mono fun v V5 l5 ⟨r5, hv, h5⟩ => ⟨r5, hv, ?_⟩
  replace hx := hx.le l5; replace hy := hy.le l5; replace h1 := h1.le l5; replace h2 := h2.le l5
  refine (whole_scaled_spec hx.im h2 (by omega) (by omega)).mono fun v V6 l6 ⟨r6, hv, h6⟩ => ⟨r6, hv, ?_⟩
  replace hy := hy.le l6; replace h1 := h1.le l6; replace h2 := h2.le l6; replace h5 := h5.le l6
  refine (whole_scaled_spec hy.im h1 (by omega) (by omega)).mono fun v V7 l7 ⟨r7, hv, h7⟩ => ⟨r7, hv, ?_⟩
  replace h1 := h1.le l7; replace h2 := h2.le l7; replace h5 := h5.le l7; replace h6 := h6.le l7
  refine (whole_plus_spec h6 h7 (by omega) (by omega)).mono fun v V8 l8 ⟨r8, hv, h8⟩ => ⟨r8, hv, ?_⟩
  replace h1 := h1.le l8; replace h2 := h2.le l8; replace h5 := h5.le l8
  refine (nat_mul_spec h1 h2 (by omega) (by omega)).mono fun v V9 l9 ⟨r9, hv, h9⟩ => ⟨r9, hv, ?_⟩
  exact (num_over_spec (h5.le l9) (h8.le l9) h9 (z.canon.rep.add w.canon.rep) (by omega) (by omega) (by omega)).mono fun v V10 _ ⟨r, hv, hr⟩ => ⟨r, hv, r, rfl, hr⟩

theorem Num_Neg_spec {V : View} {x : NumV} {z : Cq} (hx : NumAt V x z) : CallV Tryz.prog n_Num_Neg #[x.val] V fun v V' => ∃ r : NumV, v = r.val ∧ NumAt V' r (-z) := by
  obtain ⟨e1, e2, e3⟩ := z.neg_eqs
  refine Num_Neg_vc x V _ ((whole_minus_spec hx.re).mono fun v V1 l1 ⟨r1, hv, h1⟩ => ⟨r1, hv, ?_⟩)
  exact (whole_minus_spec (hx.im.le l1)).mono fun v V2 l2 ⟨r2, hv, h2⟩ => ⟨r2, hv, _, rfl, by rw [e1]; exact h1.le l2, by rw [e2]; exact h2, by rw [e3]; exact hx.under.le (View.le_trans l1 l2)⟩

theorem Num_Conj_spec {V : View} {x : NumV} {z : Cq} (hx : NumAt V x z) : CallV Tryz.prog n_Num_Conj #[x.val] V fun v V' => ∃ r : NumV, v = r.val ∧ NumAt V' r z.conj := by
  obtain ⟨e1, e2, e3⟩ := z.conj_eqs
  exact Num_Conj_vc x V _ ((whole_minus_spec hx.im).mono fun v V1 l1 ⟨r1, hv, h1⟩ => ⟨r1, hv, _, rfl, by rw [e1]; exact hx.re.le l1, by rw [e2]; exact h1, by rw [e3]; exact hx.under.le l1⟩)

theorem Num_Sub_spec {V : View} {x y : NumV} {z w : Cq} (hx : NumAt V x z) (hy : NumAt V y w) (hz : z.sz ≤ 2 ^ 40) (hw : w.sz ≤ 2 ^ 40) :
    CallV Tryz.prog n_Num_Sub #[x.val, y.val] V fun v V' => ∃ r : NumV, v = r.val ∧ NumAt V' r (z - w) := by
  refine Num_Sub_vc x y V _ ((Num_Neg_spec hy).mono fun v V1 l1 ⟨r1, hv, h1⟩ => ⟨r1, hv, ?_⟩)
  rw [Cq.sub_eq]
  exact (Num_Add_spec (hx.le l1) h1 hz (by rw [Cq.sz_neg]; exact hw)).mono fun v V2 _ ⟨r, hv, hr⟩ => ⟨r, hv, r, rfl, hr⟩

theorem Num_Mul_spec {V : View} {x y : NumV} {z w : Cq} (hx : NumAt V x z) (hy : NumAt V y w) (hz : z.sz ≤ 2 ^ 40) (hw : w.sz ≤ 2 ^ 40) :
    CallV Tryz.prog n_Num_Mul #[x.val, y.val] V fun v V' => ∃ r : NumV, v = r.val ∧ NumAt V' r (z * w) := by
  have zA := Cq.wA hz; have zB := Cq.wB hz; have zD := Cq.wD hz
  have wA := Cq.wA hw; have wB := Cq.wB hw; have wD := Cq.wD hw
  have s1 := wn_muli zA wA; have s2 := wn_muli zB wB; have s2' := wn_negi s2; have s3 := wn_muli zA wB; have s4 := wn_muli zB wA
  have s5 := wn_addi s1 s2'; have s6 := wn_addi s3 s4
  have s7 := wn_mul_le z.D w.D
  refine Num_Mul_vc x y V _ ((whole_times_spec hx.re hy.re (by omega) (by omega)).mono fun v V1 l1 ⟨r1, hv, h1⟩ => ⟨r1, hv, ?_⟩)
  replace hx := hx.le l1; replace hy := hy.le l1
  refine (whole_times_spec hx.im hy.im (by omega) (by omega)).mono fun v V2 l2 ⟨r2, hv, h2⟩ => ⟨r2, hv, ?_⟩
  replace hx := hx.le l2; replace hy := hy.le l2; replace h1 := h1.le l2
  refine (whole_minus_spec h2).mono fun v V3 l3 ⟨r3, hv, h3⟩ => ⟨r3, hv, ?_⟩
  replace hx := hx.le l3; replace hy := hy.le l3; replace h1 := h1.le l3
  refine (whole_plus_spec h1 h3 (by omega) (by omega)).mono fun v V4 l4 ⟨r4, hv, h4⟩ => ⟨r4, hv, ?_⟩
  replace hx := hx.le l4; replace hy := hy.le l4
  refine (whole_times_spec hx.re hy.im (by omega) (by omega)).mono fun v V5 l5 ⟨r5, hv, h5⟩ => ⟨r5, hv, ?_⟩
  replace hx := hx.le l5; replace hy := hy.le l5; replace h4 := h4.le l5
  refine (whole_times_spec hx.im hy.re (by omega) (by omega)).mono fun v V6 l6 ⟨r6, hv, h6⟩ => ⟨r6, hv, ?_⟩
  replace hx := hx.le l6; replace hy := hy.le l6; replace h4 := h4.le l6; replace h5 := h5.le l6
  refine (whole_plus_spec h5 h6 (by omega) (by omega)).mono fun v V7 l7 ⟨r7, hv, h7⟩ => ⟨r7, hv, ?_⟩
  replace hx := hx.le l7; replace hy := hy.le l7; replace h4 := h4.le l7
  refine (Num_den_spec hx).mono fun v V8 l8 ⟨r8, hv, h8⟩ => ⟨r8, hv, ?_⟩
  replace hy := hy.le l8; replace h4 := h4.le l8; replace h7 := h7.le l8
  refine (Num_den_spec hy).mono fun v V9 l9 ⟨r9, hv, h9⟩ => ⟨r9, hv, ?_⟩
  replace h4 := h4.le l9; replace h7 := h7.le l9; replace h8 := h8.le l9
  refine (nat_mul_spec h8 h9 (by omega) (by omega)).mono fun v V10 l10 ⟨r10, hv, h10⟩ => ⟨r10, hv, ?_⟩
  refine (num_over_spec (h4.le l10) (h7.le l10) h10 ?_ (by omega) (by omega) (by omega)).mono fun v V11 _ ⟨r, hv, hr⟩ => ⟨r, hv, r, rfl, hr⟩
  rw [← Int.sub_eq_add_neg]; exact z.canon.rep.mul w.canon.rep

theorem Num_Same_spec {V : View} {x y : NumV} {z w : Cq} (hx : NumAt V x z) (hy : NumAt V y w) (hz : z.sz ≤ 2 ^ 40) (hw : w.sz ≤ 2 ^ 40) :
    CallV Tryz.prog n_Num_Same #[x.val, y.val] V fun v _ => v = .bool (decide (z = w)) := by
  have zA := Cq.wA hz; have zB := Cq.wB hz; have zD := Cq.wD hz
  have wA := Cq.wA hw; have wB := Cq.wB hw; have wD := Cq.wD hw
  refine Num_Same_vc x y V _ ((whole_cmp_spec hx.re hy.re (by omega) (by omega)).mono fun v V1 l1 hv => ⟨_, hv, fun h1 => ?_, fun h1 => ⟨(fun h => by cases h), fun _ => ?_⟩⟩)
  · have h1 : z.A = w.A := cmpZ_zero.1 (by simpa using h1)
    refine (whole_cmp_spec (hx.im.le l1) (hy.im.le l1) (by omega) (by omega)).mono fun v V2 l2 hv => ⟨_, hv, fun h2 => ?_, fun h2 => ?_⟩
    · have h2 : z.B = w.B := cmpZ_zero.1 (by simpa using h2)
      refine (nat_cmp_spec (hx.under.le (View.le_trans l1 l2)) (hy.under.le (View.le_trans l1 l2)) ?_).mono fun v V3 l3 hv => ⟨_, hv, ?_⟩
      · split
        · rw [wn_zero]; omega
        · omega
      · have hD1 := z.D_pos
        have hD2 := w.D_pos
        congr 1
        by_cases e : z.D = w.D
        · have : z = w := Cq.eq_of h1 h2 e
          subst this; simp
        · have : z ≠ w := by rintro rfl; exact e rfl
          simp only [this, decide_false]
          have h3 : (if z.D = 1 then 0 else z.D) ≠ (if w.D = 1 then 0 else w.D) := by split <;> split <;> omega
          rw [if_neg h3]
          by_cases h : (if z.D = 1 then 0 else z.D) < (if w.D = 1 then 0 else w.D)
          · rw [if_pos h]; rfl
          · rw [if_neg h]; rfl
    · have h2 : ¬ z.B = w.B := fun e => by rw [cmpZ_zero.2 e] at h2; simp at h2
      have : z ≠ w := by rintro rfl; exact h2 rfl
      simp [this]
  · have h1 : ¬ z.A = w.A := fun e => by rw [cmpZ_zero.2 e] at h1; simp at h1
    have : z ≠ w := by rintro rfl; exact h1 rfl
    simp [this]

theorem Num_Real_spec {V : View} {x : NumV} {z : Cq} (hx : NumAt V x z) : CallV Tryz.prog n_Num_Real #[x.val] V fun v _ => v = .bool (decide (z.im = 0)) := by
  refine Num_Real_vc x V _ ?_
  have h1 := hx.im.2.len_zero
  have h2 := Cq.B_zero (z := z)
  congr 1
  by_cases e : z.im = 0
  · have : x.im.mag.len = 0 := h1.2 (by rw [h2.2 e]; rfl)
    simp [e, this]
  · have : x.im.mag.len ≠ 0 := fun h => e (h2.1 (by have := h1.1 h; omega))
    simp only [e, decide_false, beq_eq_false_iff_ne, ne_eq]; omega

theorem Num_Of_spec {V : View} {x y : NumV} {w : Cq} (hy : NumAt V y w) : CallV Tryz.prog n_Num_Of #[x.val, y.val] V fun v V' => ∃ r : NumV, v = r.val ∧ NumAt V' r w :=
  Num_Of_vc x y V _ ⟨y, rfl, hy⟩

end Go.Proofs.YtcapadojlaojkaaGreat

namespace Go.Proofs.YtcapadojlaojkaaGreat
open Go Go.Vc Go.Proofs

def lenB (n : Nat) : Bool := [1, 2, 4, 8, 16, 32, 64].contains n
theorem lenB_eq : ∀ n ∈ List.range 65, 1 ≤ n → (IntKind.i64.wrap (BitVec.toNat ((BitVec.ofInt IntKind.i64.bits (n : Int)) &&& (BitVec.ofInt IntKind.i64.bits (IntKind.i64.wrap ((n : Int) - 1))))) == 0) = lenB n := by
  decide +kernel
theorem lenB_le {n : Nat} (h : lenB n = true) : 1 ≤ n ∧ n ≤ 64 := by
  simp [lenB] at h; omega

theorem transform_length_spec {V : View} {n : Int} (h0 : 0 ≤ n) : CallV Tryz.prog n_transform_length #[.int .i64 n] V fun v _ => v = .bool (lenB n.toNat) := by
  refine transform_length_vc n V _ ⟨fun h1 => ⟨fun h2 => ?_, fun h2 => ?_⟩, fun h1 => ⟨fun h => absurd h (by simp), fun _ => ?_⟩⟩
  · simp only [decide_eq_true_eq] at h1 h2
    have := lenB_eq n.toNat (by simp; omega) (by omega)
    rw [Int.toNat_of_nonneg h0] at this
    rw [this]
  · simp only [decide_eq_false_iff_not] at h2
    congr 1; symm
    rw [Bool.eq_false_iff]; intro e
    have := lenB_le e; omega
  · simp only [decide_eq_false_iff_not] at h1
    congr 1; symm
    rw [Bool.eq_false_iff]; intro e
    have := lenB_le e; omega

theorem transform_fits_spec {V : View} (p q : Sl) : CallV Tryz.prog n_transform_fits_num_Num_ #[p.v, q.v] V fun v _ => v = .bool (lenB q.len && decide (p.len = q.len)) := by
  refine transform_fits_num_Num__vc p q V _ ((transform_length_spec (Int.natCast_nonneg _)).mono fun v V1 l1 hv => ⟨_, hv, fun h => ?_, fun h => ?_⟩)
  · rw [Int.toNat_natCast] at h
    rw [h, Bool.true_and]; congr 1
    rw [Bool.eq_iff_iff]; simp; omega
  · rw [Int.toNat_natCast] at h
    rw [h, Bool.false_and]

/-- What a plain number stands for. -/
def ratQ (r : RatV) : Cq := if r.den = 0 then ⟨(r.re : Rat), (r.im : Rat)⟩ else ⟨(r.re : Rat) / (r.den : Rat), (r.im : Rat) / (r.den : Rat)⟩
def ratI (r : RatV) : Prop := (-9223372036854775808 ≤ r.re ∧ r.re ≤ 9223372036854775807) ∧ (-9223372036854775808 ≤ r.im ∧ r.im ≤ 9223372036854775807) ∧ (-9223372036854775808 ≤ r.den ∧ r.den ≤ 9223372036854775807)
def ratC (_ : View) (x : List Value) (r : RatV) : Prop := x = r.val.cells.toList
def RatsAt (V : View) (s : Sl) (rs : List RatV) : Prop := ListAt 3 ratC V s rs
theorem RatsAt.le {V V' : View} (hle : V.le V') {s : Sl} {rs : List RatV} (h : RatsAt V s rs) : RatsAt V' s rs := ListAt.le (P := ratC) (V := V) (V' := V') (fun _ _ h => h) hle h

theorem law1_Of_spec {V : View} {r : RatV} (h : ratI r) : CallV Tryz.prog n_law1_Of #[r.val] V fun v V' => ∃ x : NumV, v = x.val ∧ NumAt V' x (ratQ r) := by
  obtain ⟨⟨a1, a2⟩, ⟨b1, b2⟩, ⟨c1, c2⟩⟩ := h
  refine law1_Of_vc r V _ ⟨fun h0 => ?_, fun h0 => ?_⟩
  · have h0 : r.den = 0 := by simpa using h0
    refine (num_New_spec a1 a2 b1 b2 (by omega) (by omega) (by omega)).mono fun v V1 _ ⟨x, hv, hx⟩ => ⟨x, 0, hv, x, rfl, ?_⟩
    have e : ratQ r = ⟨(r.re : Rat) / ((1 : Int) : Rat), (r.im : Rat) / ((1 : Int) : Rat)⟩ := by
      unfold ratQ; rw [if_pos h0]; simp only [Rat.div_def, Cq.mk.injEq]; constructor <;> grind
    rw [e]; exact hx
  · have h0 : r.den ≠ 0 := by simpa using h0
    refine (num_New_spec a1 a2 b1 b2 c1 c2 h0).mono fun v V1 _ ⟨x, hv, hx⟩ => ⟨x, 0, hv, x, rfl, ?_⟩
    unfold ratQ; rw [if_neg h0]; exact hx

theorem law1_List_spec {V : View} {s : Sl} {rs : List RatV} (h : RatsAt V s rs) (hi : ∀ r ∈ rs, ratI r) (hn : rs.length ≤ 2 ^ 32) :
    CallV Tryz.prog n_law1_List #[s.v] V fun v V' => ∃ r : Sl, v = r.v ∧ NumsAt V' r (rs.map ratQ) := by
  have hl := h.len
  let f : Nat → Cq := fun i => nth (rs.map ratQ) i
  refine law1_List_vc s V _ (fun _ x V' => 0 ≤ x.t11 ∧ x.t11 ≤ s.len ∧ NumsIn V' x.o8 (filled s.len x.t11.toNat f)) (fun _ x _ => s.len - x.t11.toNat)
    ⟨⟨by omega, by omega, by omega, by omega⟩, ⟨by simp, by simp, ?_⟩, ?_⟩
  · simp only [Int.toNat_zero, filled_zero, Int.toNat_natCast]; exact NumsIn.zeros _ _
  rintro ⟨t, o⟩ V1 l1 ⟨h0, h1, ho⟩
  simp only at h0 h1 ho ⊢
  refine ⟨fun hlt => ?_, fun hge => ?_⟩
  · simp only [decide_eq_true_eq] at hlt
    have hk : t.toNat < rs.length := by omega
    obtain ⟨hb, x, hx, _, hh, hs⟩ := (h.le l1).get h0 (z := rs[t.toNat]) (by simp [hk])
    refine ⟨hb, rs[t.toNat], hx ▸ hh, hs, (law1_Of_spec (hi _ (List.getElem_mem _))).mono fun v V2 l2 ⟨r, hv, hr⟩ => ⟨r, hv, ⟨h0, by simpa using hlt⟩, ?_, ?_⟩⟩
    · exact Cells.room ho (by rw [filled_length (by omega)]; omega)
    · have e : IntKind.i64.wrap (t + 1) = t + 1 := i64w (by omega) (by omega)
      have e2 : (t + 1).toNat = t.toNat + 1 := by omega
      have ef : f t.toNat = ratQ rs[t.toNat] := by simp [f, nth, List.getD, hk]
      refine ⟨⟨by rw [e]; omega, by rw [e]; omega, ?_⟩, by simp only [e, e2]; omega⟩
      simp only [e, e2]
      rw [← filled_set (by omega), ef]
      exact (ho.le l2).set (by rw [filled_length (by omega)]; omega) hr
  · simp only [decide_eq_false_iff_not] at hge
    intro b V3 l3 hb
    have e : t.toNat = s.len := by omega
    rw [e, filled_all] at ho
    have e2 : (List.range s.len).map f = rs.map ratQ := by
      have := list_of_nth (rs.map ratQ)
      rw [List.length_map] at this
      rw [hl]; exact this
    rw [e2] at ho
    exact ⟨_, rfl, ListAt.of_made hb (ho.le l3) (by simp [hl])⟩

theorem oneCell_num (r : NumV) : ∀ v ∈ [Value.bool r.re.neg, r.re.mag.v, Value.bool r.im.neg, r.im.mag.v, r.under.v], Value.oneCell' v = true := by
  intro v hv
  simp only [List.mem_cons, List.not_mem_nil, or_false] at hv
  rcases hv with rfl | rfl | rfl | rfl | rfl <;> rfl

theorem has_block {V : View} {b : Nat} {l : List Value} (h : V b = some l.toArray) : V.has (some (Addr.mk b 0 none)) l := by
  intro j v hj
  rw [load_block h]; simpa using hj

theorem transform_every_spec {V : View} {s : Sl} {zs : List Cq} {a : Int} (h : NumsAt V s zs) (ha : 0 ≤ a) (ha1 : a ≤ 1) (hn : zs.length ≤ 2 ^ 32) (hn1 : 1 ≤ zs.length) :
    CallV Tryz.prog n_transform_every_num_Num_ #[s.v, .int .i64 a] V fun v V' => ∃ r : Sl, v = r.v ∧ NumsAt V' r (everyF zs a.toNat) := by
  have hl := h.len
  refine transform_every_num_Num__vc s a V _ (fun _ x V' => ∃ l, x.t6 = a + 2 * x.t5l ∧ 2 * x.t5l + a.toNat ≤ zs.length + 1 ∧ LstOk 5 x.t5l x.t5c x.o5 l ∧ NumsIn V' l ((List.range x.t5l).map fun k => nth zs (a.toNat + 2 * k)))
    (fun _ x _ => zs.length + 2 - 2 * x.t5l) ⟨⟨[], by simp, by simp; omega, LstOk.nil, rfl⟩, ?_⟩
  rintro ⟨n, c, t, o⟩ V1 l1 ⟨l, ht, hm, hlo, hin⟩
  simp only at ht hm hlo hin ⊢
  refine ⟨fun hlt => ?_, fun hge => ?_⟩
  · simp only [decide_eq_true_eq] at hlt
    obtain ⟨hb, x, hx, hs, hnx⟩ := (h.le l1).get (t := t) (by omega) (by omega)
    refine ⟨hb, x, hx, hs, fun b V2 l2 hf hV2 => ?_⟩
    refine ⟨l, _, hlo, has_block (l := [.bool x.re.neg, x.re.mag.v, .bool x.im.neg, x.im.mag.v, x.under.v]) hV2, rfl, oneCell_num x, ?_, ?_, fun c1 l3 hl3 => ?_⟩
    · simp only [maxLen]; omega
    · omega
    · have e : IntKind.i64.wrap (t + 2) = t + 2 := i64w (by omega) (by omega)
      refine ⟨⟨_, by rw [e]; simp; omega, by omega, hl3, ?_⟩, by omega⟩
      rw [← push_range]
      have e3 : a.toNat + 2 * n = t.toNat := by omega
      rw [e3]
      exact (hin.le l2).push (hnx.le l2)
  · simp only [decide_eq_false_iff_not] at hge
    intro b V3 l3 hb
    refine ⟨_, rfl, ?_⟩
    have e : n = (zs.length + 1 - a.toNat) / 2 := by omega
    unfold everyF
    rw [← e]
    exact ListAt.of_lst hlo hb (hin.le l3) (by simp)

theorem transform_stage_owned : ∀ (m : Nat) {V : View} {p w : Sl} {zs ws : List Cq} (S T : Nat), m ≤ 6 → zs.length = 2 ^ m → ws.length = 2 ^ m → NumsAt V p zs → NumsAt V w ws →
    (∀ i, i < 2 ^ m → (nth zs i).sz ≤ S) → (∀ i, i < 2 ^ m → (nth ws i).sz ≤ T) → 2 ^ m * (S + T + 2) ≤ 2 ^ 39 →
    CallO Tryz.prog n_transform_stage_num_Num_ #[p.v, w.v] TN_num_Num V fun n cap l rest V' => n = (stageF m zs ws).length ∧ cap = n ∧ rest = [] ∧ NumsIn V' l (stageF m zs ws)
  | m, V, p, w, zs, ws, S, T, hm, hz, hw, hp, hq, hS, hT, hsz => by
    have hpl := hp.len
    have hwl := hq.len
    have hpow : 2 ^ m ≤ 64 := Nat.pow_le_pow_right (n := 2) (by omega) hm
    have hpos : 0 < 2 ^ m := Nat.pow_pos (by omega)
    rw [stageF_length]
    refine transform_stage_num_Num__vc p w V _ (fun c x V' => ∃ m' zs' ws', m = m' + 1 ∧ zs' = stageF m' (everyF zs 0) (everyF ws 0) ∧ ws' = stageF m' (everyF zs 1) (everyF ws 0) ∧
        NumsAt V' c.t8 zs' ∧ NumsAt V' c.t9 ws' ∧ 0 ≤ x.t36 ∧ x.t36 ≤ (2 ^ m' : Nat) ∧
        NumsIn V' x.o15 (halves (2 ^ m') x.t36.toNat (fun i => nth zs' i + nth ws' i * nth ws i) (fun i => nth zs' i - nth ws' i * nth ws i)))
      (fun _ x _ => 2 ^ m - x.t36.toNat) ⟨⟨by omega, by omega, by omega, by omega⟩, fun h1 => ?_, fun h1 => ?_⟩
    · have h1 : p.len = 1 := by have : (p.len : Int) = 1 := (by simpa using h1); omega
      have hm0 : m = 0 := by
        rcases Nat.eq_zero_or_pos m with h | h
        · exact h
        · have : 2 ^ 1 ≤ 2 ^ m := Nat.pow_le_pow_right (by omega) h
          omega
      subst hm0
      obtain ⟨hb, x, hx, hs, hnx⟩ := hp.get (t := 0) (by omega) (by simp [hz])
      have hset := (NumsIn.zeros V 1).set (i := 0) (by simp) hnx
      refine ⟨hb, x, hx, hs, ⟨by omega, by omega⟩, ?_, ?_, ?_⟩
      · simp [h1]
      · refine ⟨by simp [h1], ?_⟩
        intro e
        have h5 := Cells.length hset
        simp only [h1] at e
        have h6 : (0 : Nat) = 5 := (congrArg List.length e).symm.trans h5
        omega
      · refine ⟨by simp [h1], rfl, rfl, ?_⟩
        simp only [h1]
        exact hset
    · have h1 : p.len ≠ 1 := by intro e; simp [e] at h1
      obtain ⟨m', rfl⟩ : ∃ m', m = m' + 1 := ⟨m - 1, by rcases Nat.eq_zero_or_pos m with h | h; · subst h; simp at hz; omega
                                                        · omega⟩
      have hp2 : 2 ^ (m' + 1) = 2 * 2 ^ m' := by rw [Nat.pow_succ]; omega
      have hmul : 2 ^ (m' + 1) * (S + T + 2) = 2 * (2 ^ m' * (S + T + 2)) := by rw [hp2, Nat.mul_assoc]
      have bz : ∀ a, a ≤ 1 → ∀ i, i < 2 ^ m' → (nth (everyF zs a) i).sz ≤ S := by
        intro a ha i hi; rw [everyF_nth (by omega)]; exact hS _ (by omega)
      have bw : ∀ i, i < 2 ^ m' → (nth (everyF ws 0) i).sz ≤ T := by
        intro i hi; rw [everyF_nth (by omega)]; exact hT _ (by omega)
      refine (transform_every_spec hq (Int.le_refl 0) (by omega) (by omega) (by omega)).mono fun v V1 l1 ⟨r1, hv, hr1⟩ => ⟨r1, hv, ?_⟩
      refine (transform_every_spec (hp.le l1) (Int.le_refl 0) (by omega) (by omega) (by omega)).mono fun v V2 l2 ⟨r2, hv, hr2⟩ => ⟨r2, hv, ?_⟩
      have ne : ∀ zs ws, stageF m' zs ws ≠ [] := by
        intro zs ws e
        have := stageF_length m' zs ws
        rw [e] at this; simp at this
        have : 0 < 2 ^ m' := Nat.pow_pos (by omega)
        omega
      refine (CallO.nums (ne _ _) (transform_stage_owned m' S T (by omega) (by simp [everyF_length]; omega) (by simp [everyF_length]; omega) hr2 (hr1.le l2) (bz 0 (by omega)) bw (by omega))).mono fun v V3 l3 ⟨r3, hv, hr3⟩ => ⟨r3, hv, ?_⟩
      refine (transform_every_spec (hp.le (View.le_trans l1 (View.le_trans l2 l3))) (a := 1) (by omega) (by omega) (by omega) (by omega)).mono fun v V4 l4 ⟨r4, hv, hr4⟩ => ⟨r4, hv, ?_⟩
      refine (CallO.nums (ne _ _) (transform_stage_owned m' S T (by omega) (by simp [everyF_length]; omega) (by simp [everyF_length]; omega) hr4 (hr1.le (View.le_trans l2 (View.le_trans l3 l4))) (bz 1 (by omega)) bw (by omega))).mono fun v V5 l5 ⟨r5, hv, hr5⟩ => ⟨r5, hv, ?_⟩
      have le5 : View.le V V5 := View.le_trans l1 (View.le_trans l2 (View.le_trans l3 (View.le_trans l4 l5)))
      have hdiv : IntKind.i64.wrap (Int.tdiv (p.len : Int) 2) = ((2 ^ m' : Nat) : Int) := by
        have e : Int.tdiv (p.len : Int) 2 = ((2 ^ m' : Nat) : Int) := by
          rw [Int.tdiv_eq_ediv_of_nonneg (by omega)]; omega
        rw [e]; exact i64w (by omega) (by omega)
      rw [hdiv]
      refine ⟨⟨m', _, _, rfl, rfl, rfl, hr3.le (View.le_trans l4 l5), hr5, Int.le_refl 0, Int.natCast_nonneg _, ?_⟩, ?_⟩
      · simp only [Int.toNat_zero, halves_zero, Int.toNat_natCast, hpl, hz, hp2]
        exact NumsIn.zeros _ _
      rintro ⟨t, o⟩ V6 l6 ⟨m2, zs', ws', em, rfl, rfl, h8, h9, h0, h1', hin⟩
      have em : m' = m2 := by omega
      subst em
      simp only at h8 h9 h0 h1' hin ⊢
      have lz := stageF_length m' (everyF zs 0) (everyF ws 0)
      have lw := stageF_length m' (everyF zs 1) (everyF ws 0)
      have l8 := h8.len
      have l9 := h9.len
      have lo : ∀ k a b, (halves (2 ^ m') k a b).length = 2 * 2 ^ m' := by intro k a b; simp [halves]
      refine ⟨fun hlt => ?_, fun hge => ?_⟩
      · simp only [decide_eq_true_eq] at hlt
        have hk : t.toNat < 2 ^ m' := by omega
        obtain ⟨hb4, x4, hx4, hs4, hn4⟩ := h9.get h0 (by omega)
        obtain ⟨hb5, x5, hx5, hs5, hn5⟩ := (hq.le (View.le_trans le5 l6)).get h0 (by omega)
        have sE := stageF_sz m' (everyF zs 0) (everyF ws 0) S T (by simp [everyF_length]; omega) (by simp [everyF_length]; omega) (bz 0 (by omega)) bw t.toNat hk
        have sO := stageF_sz m' (everyF zs 1) (everyF ws 0) S T (by simp [everyF_length]; omega) (by simp [everyF_length]; omega) (bz 1 (by omega)) bw t.toNat hk
        have sW := hT t.toNat (by omega)
        have hm2 : S + T + 2 ≤ 2 ^ m' * (S + T + 2) := Nat.le_mul_of_pos_left _ (Nat.pow_pos (by omega))
        have sU := Cq.sz_mul (nth (stageF m' (everyF zs 1) (everyF ws 0)) t.toNat) (nth ws t.toNat)
        refine ⟨hb4, x4, hx4, hs4, hb5, x5, hx5, hs5, (Num_Mul_spec hn4 hn5 (by omega) (by omega)).mono fun v V7 l7 ⟨r6, hv, hr6⟩ => ⟨r6, hv, ?_⟩⟩
        obtain ⟨hb6, x6, hx6, hs6, hn6⟩ := (h8.le l7).get h0 (by omega)
        refine ⟨hb6, x6, hx6, hs6, hb6, x6, hx6, hs6, (Num_Add_spec hn6 hr6 (by omega) (by omega)).mono fun v V8 l8' ⟨r7, hv, hr7⟩ => ⟨r7, hv, ?_⟩⟩
        refine (Num_Sub_spec (hn6.le l8') (hr6.le l8') (by omega) (by omega)).mono fun v V9 l9' ⟨r8, hv, hr8⟩ => ⟨r8, hv, ⟨h0, ?_⟩, ?_, ?_⟩
        · omega
        · exact Cells.room hin (by rw [lo]; omega)
        have ek : IntKind.i64.wrap (t + ((2 ^ m' : Nat) : Int)) = t + ((2 ^ m' : Nat) : Int) := i64w (by omega) (by omega)
        have ek2 : Int.toNat (t + ((2 ^ m' : Nat) : Int)) = t.toNat + 2 ^ m' := by omega
        have et : IntKind.i64.wrap (t + 1) = t + 1 := i64w (by omega) (by omega)
        have et2 : (t + 1).toNat = t.toNat + 1 := by omega
        rw [ek, ek2]
        have in9 := hin.le (View.le_trans l7 (View.le_trans l8' l9'))
        have s1 := in9.set (i := t.toNat) (by rw [lo]; omega) (hr7.le l9')
        have s2 := s1.set (i := t.toNat + 2 ^ m') (by rw [List.length_set, lo]; omega) hr8
        refine ⟨⟨by omega, by omega⟩, ?_, ⟨m', _, _, rfl, rfl, rfl, h8.le (View.le_trans l7 (View.le_trans l8' l9')), h9.le (View.le_trans l7 (View.le_trans l8' l9')), by rw [et]; omega, by rw [et]; omega, ?_⟩, by simp only [et, et2]; omega⟩
        · exact Cells.room s1 (by rw [List.length_set, lo]; omega)
        · simp only [et, et2]
          rw [← halves_set hk]
          exact s2
      · simp only [decide_eq_false_iff_not] at hge
        have e : t.toNat = 2 ^ m' := by omega
        rw [e] at hin
        have e2 : halves (2 ^ m') (2 ^ m') (fun i => nth (stageF m' (everyF zs 0) (everyF ws 0)) i + nth (stageF m' (everyF zs 1) (everyF ws 0)) i * nth ws i)
            (fun i => nth (stageF m' (everyF zs 0) (everyF ws 0)) i - nth (stageF m' (everyF zs 1) (everyF ws 0)) i * nth ws i) = stageF (m' + 1) zs ws := by
          have h2 := list_of_nth (stageF (m' + 1) zs ws)
          rw [stageF_length] at h2
          rw [← h2]
          unfold halves
          rw [← hp2]
          apply List.map_congr_left
          intro i hi
          have hi : i < 2 ^ (m' + 1) := by simpa using hi
          rw [stageF, nth_map hi]
          split
          · rfl
          · rw [if_pos (by omega)]
        rw [e2] at hin
        refine ⟨⟨by omega, ?_⟩, by omega, by simp, by simp, hin⟩
        intro eo
        subst eo
        have := Cells.length hin
        rw [stageF_length] at this
        simp at this; omega
end Go.Proofs.YtcapadojlaojkaaGreat

namespace Go.Proofs.YtcapadojlaojkaaGreat
open Go Go.Vc Go.Proofs Go.ChangeShapes Go.RowKit

/-- What is to be known of the type of plain numbers. -/
structure RatTy (P : Program) (t : TypeId) : Prop where
  fields : ∃ f0 f1 f2 : Field, P.underlying t = some (.struct #[f0, f1, f2]) ∧ (f0.offset = 0 ∧ f1.offset = 1 ∧ f2.offset = 2) ∧
    (P.underlying f0.type = some (.int .i64) ∧ P.underlying f1.type = some (.int .i64) ∧ P.underlying f2.type = some (.int .i64)) ∧ (P.cellsOf f0.type = 1 ∧ P.cellsOf f1.type = 1 ∧ P.cellsOf f2.type = 1)
  cells : P.cellsOf t = 3

section
variable {H : Type} {enc : TypeId × Value → H} {P : Program} {w : World} {base : Nat} {spare : Nat → Bool} {held : Bool}

theorem trod_rat {t : TypeId} {fuel : Nat} {cs : List Value} {x : DataW H × List MemPlace} (ht : RatTy P t) (h : DataW.trod enc P w base spare held fuel t cs = some x) : ∃ r : RatV, ratI r ∧ cs = r.val.cells.toList := by
  obtain ⟨f0, f1, f2, hR, ⟨o0, o1, o2⟩, ⟨i0, i1, i2⟩, c0, c1, c2⟩ := ht.fields
  obtain ⟨xs, n, _, _, hl, hxs, hf⟩ := DataW.trod_struct hR h
  rw [ht.cells] at hl
  match cs, hl with
  | [a, b, c], _ =>
    have g0 := hf 0 f0 rfl
    have g1 := hf 1 f1 rfl
    have g2 := hf 2 f2 rfl
    rw [o0, c0] at g0
    rw [o1, c1] at g1
    rw [o2, c2] at g2
    have hs : xs.length = 3 := hxs
    match xs, hs with
    | [y0, y1, y2], _ =>
      obtain ⟨n0, e0, _, w0⟩ := DataW.trod_int i0 g0
      obtain ⟨n1, e1, _, w1⟩ := DataW.trod_int i1 g1
      obtain ⟨n2, e2, _, w2⟩ := DataW.trod_int i2 g2
      simp at e0 e1 e2
      subst e0; subst e1; subst e2
      exact ⟨⟨n0, n1, n2⟩, ⟨bounds_i64 w0, bounds_i64 w1, bounds_i64 w2⟩, rfl⟩

/-- The block of an argument, known. -/
def blockView (w : World) (b : Nat) : View := fun i => if i = b then (match w.heap[b]? with | some (.cells cs _ _) => some cs | _ => none) else none
theorem blockView_in (w : World) (b : Nat) : (blockView w b).In w := by
  intro i cs hi
  unfold blockView at hi
  split at hi
  · rename_i e; subst e
    split at hi
    · rename_i cs' T fr hw
      simp at hi; subst hi
      exact ⟨T, fr, hw⟩
    · simp at hi
  · simp at hi
theorem blockView_load {w : World} {p : Addr} {v : Value} (h : w.cell? p = some v) : (blockView w p.block).load (some p) = some v := by
  unfold World.cell? at h
  unfold View.load blockView
  split at h
  · rename_i c T fr hw
    simp only [hw, if_true]
    split at h
    · simp at h
    · rename_i hs
      simp only [hs]
      simpa using h
  · simp at h

theorem add_block (a : Addr) (n : Nat) : (a.add n).block = a.block := by unfold Addr.add; split <;> rfl

theorem open_rats {t e : TypeId} {v : Value} {d : DataW H} {ps : List MemPlace} (ht : P.underlying t = some (.slice e)) (he : RatTy P e) (hv : ∃ a l c, v = .slice a l c) (h : DataW.Trod enc P w 0 spare held t v d ps) :
    ∃ (s : Sl) (rs : List RatV) (V : View), v = s.v ∧ V.In w ∧ RatsAt V s rs ∧ rs.length ≤ maxLen ∧ ∀ r ∈ rs, ratI r := by
  obtain ⟨a0, l0, c0, rfl⟩ := hv
  obtain ⟨fuel, h⟩ := h
  rcases Go.Deep.open_slice ht h with ⟨h1, _⟩ | ⟨a, len, cap, m, n, D, Pl, h1, _, hl, hm, hmm, _, hx⟩
  · have h1 : (Value.slice a0 l0 c0) = .slice none 0 0 := by simpa [Value.cells] using h1
    injection h1 with e1 e2 e3
    subst e1; subst e2; subst e3
    exact ⟨Sl.mk none 0 0, [], fun _ => none, rfl, fun b cs hb => by simp at hb, ListAt.nil, Nat.zero_le _, by intro r hr; simp at hr⟩
  · have h1 : (Value.slice a0 l0 c0) = .slice (some a) len cap := by simpa [Value.cells] using h1
    injection h1 with e1 e2 e3
    subst e1; subst e2; subst e3
    have hlm : l0 ≤ m := by rw [hmm]; split <;> omega
    have key : ∀ k, k ≤ l0 → ∃ (rs : List RatV) (o : List Value), rs.length = k ∧ (∀ r ∈ rs, ratI r) ∧ Cells 3 ratC (blockView w a.block) o rs ∧ (blockView w a.block).has (some a) o := by
      intro k
      induction k with
      | zero => intro _; exact ⟨[], [], rfl, by intro r hr; simp at hr, rfl, by intro j v hj; simp at hj⟩
      | succ k ih =>
        intro hk
        obtain ⟨rs, o, hrl, hri, hc, ho⟩ := ih (by omega)
        obtain ⟨cs', g1, g2⟩ := hx k (by omega)
        obtain ⟨r, hr, er⟩ := trod_rat he g2
        rw [he.cells] at g1
        obtain ⟨_, hcl, hcell⟩ := World.cells?_some g1
        have hol := hc.length
        refine ⟨rs ++ [r], o ++ cs', by simp [hrl], ?_, hc.append (Cells.one hcl er), ?_⟩
        · intro x hx
          rcases List.mem_append.1 hx with h | h
          · exact hri x h
          · simp at h; subst h; exact hr
        · intro j v hj
          by_cases hjo : j < o.length
          · rw [List.getElem?_append_left hjo] at hj
            exact ho j v hj
          · rw [List.getElem?_append_right (by omega)] at hj
            have hj3 : j - o.length < 3 := by
              rcases Nat.lt_or_ge (j - o.length) cs'.length with h | h
              · omega
              · rw [List.getElem?_eq_none h] at hj; simp at hj
            have hcj := hcell (j - o.length) hj3
            rw [hj, addr_add2] at hcj
            have e : k * 3 + (j - o.length) = j := by rw [hol, hrl]; omega
            rw [e] at hcj
            have := blockView_load hcj
            rw [add_block] at this
            exact this
    obtain ⟨rs, o, hrl, hri, hc, ho⟩ := key l0 (Nat.le_refl _)
    exact ⟨Sl.mk (some a) l0 c0, rs, blockView w a.block, rfl, blockView_in w a.block, ⟨hrl.symm, hl, fun _ => rfl, o, ho, hc⟩, by omega, hri⟩
end

/-- A call whose answer is known in a world that fits. -/
theorem CallV.fits {P : Program} {f : FuncId} {args : Array Value} {r : Value} {V : View} (h : CallV P f args V fun v _ => v = r) {w : World} (hw : V.In w) :
    Calls P f args w fun e w' => e = .returned r ∧ Below w.heap.size w w' :=
  (h w hw).mono fun _ _ ⟨_, _, he, _, _, _, hb, hr⟩ => ⟨by rw [he, hr], hb⟩

theorem trodAll_below {H : Type} {enc : TypeId × Value → H} {P : Program} (hl : laidOutB P = true) {W W' : World} (hb : Below W.heap.size W W') :
    ∀ {ts : List TypeId} {vs : List Value} {ds : List (DataW H)} {ps : List MemPlace}, (∀ t ∈ ts, P.readableRec t = true ∧ t < P.types.size) → (∀ p ∈ ps, p.block < W.heap.size) →
    DataW.TrodAll enc P W 0 (fun _ => true) true ts vs ds ps → DataW.TrodAll enc P W' 0 (fun b => decide (b < W.heap.size)) true ts vs ds ps
  | [], [], [], _, _, _, h => h
  | t :: ts, v :: vs, d :: ds, ps, ht, hlt, ⟨p, q, h1, h2, e⟩ => by
    subst e
    exact ⟨p, q, Below.trod hl (ht t (by simp)).1 (ht t (by simp)).2 h1 hb (fun x hx => hlt x (by simp [hx])),
      trodAll_below hl hb (fun t' ht' => ht t' (by simp [ht'])) (fun x hx => hlt x (by simp [hx])) h2, rfl⟩
  | [], [], _ :: _, _, _, _, h => h.elim
  | [], _ :: _, _, _, _, _, h => h.elim
  | _ :: _, [], _, _, _, _, h => h.elim
  | _ :: _, _ :: _, [], _, _, _, h => h.elim

/-- What is to be shown of a run that only read its arguments. -/
theorem post_of_read {H : Type} {enc : TypeId × Value → H} {P : Program} {f : Func} {s : ChangeSpec} {apart fresh handsOn : Bool} {W W' : World} {args : Array Value} {v : Value} {ds : List (DataW H)} {before : List MemPlace}
    (hl : laidOutB P = true) (ht : ∀ t ∈ f.params.toList, P.readableRec t = true ∧ t < P.types.size)
    (hW : DataW.Whole enc P f.params.toList s.vars apart W args.toList ds [] before) (hA : DataW.TrodAll enc P W 0 (fun _ => true) true f.params.toList args.toList ds before)
    (hres : ∀ (b : Nat) (sp : Nat → Bool) (hd : Bool), DataW.TrodAll enc P W' b sp hd f.resultTypes.toList (v.resultList f.resultTypes.size) (s.fn H (ds ++ [])).results [])
    (hargs : (s.fn H (ds ++ [])).args = ds) (hvars : ∀ sp : Nat → Bool, DataW.TrodVars enc P W' sp s.vars (s.fn H (ds ++ [])).vars []) (hb : Below W.heap.size W W') : s.post enc P f apart fresh handsOn false W args v W' := by
  refine ⟨ds, [], before, [], before, [], hW, hres _ _ _, ?_, hvars _, World.keptBut_mono (fun p hp => ⟨hp, .inr (.inl hp)⟩) (hb.frame (· ∈ before)), fun h => Bool.noConfusion h⟩
  rw [hargs]
  exact trodAll_below hl hb ht (fun p hp => hW.lt p hp) hA
end Go.Proofs.YtcapadojlaojkaaGreat

namespace Go.Vc
open Go

def View.join (V V' : View) : View := fun b => match V b with
  | some cs => some cs
  | none => V' b
theorem View.join_in {V V' : View} {w : World} (h : V.In w) (h' : V'.In w) : (View.join V V').In w := by
  intro b cs hb
  unfold View.join at hb
  cases hv : V b with
  | some cs' => rw [hv] at hb; exact h b cs (by rw [hv]; exact hb)
  | none => rw [hv] at hb; exact h' b cs hb
theorem View.join_le1 {V V' : View} {w : World} (_h : V.In w) (_h' : V'.In w) : V.le (View.join V V') := by
  intro b cs hb
  unfold View.join
  rw [hb]
theorem View.join_le2 {V V' : View} {w : World} (h : V.In w) (h' : V'.In w) : V'.le (View.join V V') := by
  intro b cs hb
  unfold View.join
  cases hv : V b with
  | none => exact hb
  | some cs' =>
    obtain ⟨T, fr, e⟩ := h b cs' hv
    obtain ⟨T', fr', e'⟩ := h' b cs hb
    rw [e] at e'
    simp only [Option.some.injEq, Obj.cells.injEq] at e'
    rw [e'.1]
end Go.Vc

namespace Go.Proofs.YtcapadojlaojkaaGreat
open Go Go.Vc Go.Proofs Go.ChangeShapes Go.RowKit

/-- A cell of plain data. -/
inductive FK where
  | int (k : IntKind)
  | bool
def FK.ok : FK → Value → Prop
  | .int k, v => ∃ n, v = .int k n ∧ (Lit.int k n).wf = true
  | .bool, v => ∃ b, v = .bool b
def AllOk : List FK → List Value → Prop
  | [], [] => True
  | f :: fs, v :: vs => f.ok v ∧ AllOk fs vs
  | _, _ => False
theorem AllOk.append : ∀ {l l' : List FK} {v v' : List Value}, AllOk l v → AllOk l' v' → AllOk (l ++ l') (v ++ v')
  | [], _, [], _, _, h => h
  | _ :: _, _, _ :: _, _, ⟨h1, h2⟩, h => ⟨h1, AllOk.append h2 h⟩
  | [], _, _ :: _, _, h, _ => h.elim
  | _ :: _, _, [], _, h, _ => h.elim
theorem AllOk.length : ∀ {l : List FK} {v : List Value}, AllOk l v → v.length = l.length
  | [], [], _ => rfl
  | _ :: _, _ :: _, ⟨_, h⟩ => by simp [AllOk.length h]
  | [], _ :: _, h => h.elim
  | _ :: _, [], h => h.elim
/-- The cells of fields that stand one behind the other. -/
def flatFs (P : Program) (F : TypeId → Option (List FK)) : List Field → Nat → Option (List FK)
  | [], _ => some []
  | f :: fs, off => match F f.type, flatFs P F fs (off + P.cellsOf f.type) with
    | some l, some r => if f.offset = off ∧ l.length = P.cellsOf f.type then some (l ++ r) else none
    | _, _ => none
/-- The cells of a type that holds nothing but whole numbers and truths. -/
def flatK (P : Program) : Nat → TypeId → Option (List FK)
  | 0, _ => none
  | d + 1, t => match P.underlying t with
    | some (.int k) => some [.int k]
    | some .bool => some [.bool]
    | some (.struct fs) => match flatFs P (flatK P d) fs.toList 0 with
      | some l => if l.length = P.cellsOf t then some l else none
      | none => none
    | some (.array n e) => match flatK P d e with
      | some l => if l.length = P.cellsOf e ∧ n * l.length = P.cellsOf t then some (List.replicate n l).flatten else none
      | none => none
    | _ => none

section
variable {H : Type} {enc : TypeId × Value → H} {P : Program} {w : World} {base : Nat} {spare : Nat → Bool} {held : Bool}

theorem flatFs_spec {F : TypeId → Option (List FK)} {n : Nat} (hF : ∀ t l cs x, F t = some l → DataW.trod enc P w base spare held n t cs = some x → AllOk l cs) {cs : List Value} {xs : List (DataW H × List MemPlace)} {all : List Field} (hxs : xs.length = all.length)
    (hf : ∀ (i : Nat) (f : Field), all[i]? = some f → DataW.trod enc P w base spare held n f.type ((cs.drop f.offset).take (P.cellsOf f.type)) = xs[i]?) :
    ∀ (fs pre : List Field) (off : Nat) (l : List FK), all = pre ++ fs → flatFs P F fs off = some l → cs.length = off + l.length → AllOk l (cs.drop off)
  | [], pre, off, l, he, h, hl => by
    simp only [flatFs, Option.some.injEq] at h
    subst h
    rw [List.drop_eq_nil_of_le (by simp at hl; omega)]; trivial
  | f :: fs, pre, off, l, he, h, hl => by
    simp only [flatFs] at h
    split at h
    · rename_i l1 r h1 h2
      split at h
      · rename_i hc
        obtain ⟨rfl, hlen⟩ := hc
        simp only [Option.some.injEq] at h
        subst h
        have hi : all[pre.length]? = some f := by rw [he]; simp
        have g := hf _ f hi
        have hx : pre.length < xs.length := by rw [hxs, he]; simp
        rw [List.getElem?_eq_getElem hx] at g
        have a1 := hF _ _ _ _ h1 g
        have a2 := flatFs_spec hF hxs hf fs (pre ++ [f]) (f.offset + P.cellsOf f.type) r (by rw [he]; simp) h2 (by rw [List.length_append] at hl; omega)
        have e : cs.drop f.offset = (cs.drop f.offset).take (P.cellsOf f.type) ++ cs.drop (f.offset + P.cellsOf f.type) := by
          rw [← List.drop_drop, List.take_append_drop]
        rw [e]; exact a1.append a2
      · simp at h
    · simp at h

theorem flatK_spec : ∀ (d : Nat) (fuel : Nat) (t : TypeId) (l : List FK) (cs : List Value) (x : DataW H × List MemPlace), flatK P d t = some l → DataW.trod enc P w base spare held fuel t cs = some x → AllOk l cs
  | 0, _, _, _, _, _, h, _ => by simp [flatK] at h
  | d + 1, fuel, t, l, cs, x, h, hx => by
    simp only [flatK] at h
    split at h
    · rename_i k hu
      obtain ⟨n, rfl, _, hw⟩ := DataW.trod_int hu hx
      simp only [Option.some.injEq] at h
      subst h
      exact ⟨⟨n, rfl, hw⟩, trivial⟩
    · rename_i hu
      obtain ⟨b, rfl, _⟩ := DataW.trod_bool hu hx
      simp only [Option.some.injEq] at h
      subst h
      exact ⟨⟨b, rfl⟩, trivial⟩
    · rename_i fs hu
      obtain ⟨xs, n, rfl, _, hl, hxs, hf⟩ := DataW.trod_struct hu hx
      split at h
      · rename_i l1 h1
        split at h
        · rename_i hc
          simp only [Option.some.injEq] at h
          subst h
          have := flatFs_spec (F := flatK P d) (fun t l cs x h1 h2 => flatK_spec d n t l cs x h1 h2) (all := fs.toList) (by simpa using hxs) (fun i f hi => hf i f (by simpa using hi)) fs.toList [] 0 l1 rfl h1 (by omega)
          simpa using this
        · simp at h
      · simp at h
    · rename_i n e hu
      obtain ⟨xs, m, rfl, _, hl, hxs, hf⟩ := DataW.trod_array hu hx
      split at h
      · rename_i l1 h1
        split at h
        · rename_i hc
          obtain ⟨c1, c2⟩ := hc
          simp only [Option.some.injEq] at h
          subst h
          have key : ∀ j, j ≤ n → AllOk (List.replicate j l1).flatten (cs.take (j * P.cellsOf e)) := by
            intro j
            induction j with
            | zero => intro _; simp; trivial
            | succ j ih =>
              intro hj
              have a1 := ih (by omega)
              have g := hf j (by omega)
              rw [List.getElem?_eq_getElem (by omega : j < xs.length)] at g
              have a2 := flatK_spec d m e l1 _ _ h1 g
              have e1 : cs.take ((j + 1) * P.cellsOf e) = cs.take (j * P.cellsOf e) ++ (cs.drop (j * P.cellsOf e)).take (P.cellsOf e) := by
                rw [Nat.add_mul, Nat.one_mul, List.take_add]
              have e2 : (List.replicate (j + 1) l1).flatten = (List.replicate j l1).flatten ++ l1 := by
                rw [List.replicate_succ']; simp
              rw [e1, e2]; exact a1.append a2
          have := key n (Nat.le_refl _)
          rw [List.take_of_length_le (by rw [hl, ← c2, c1]; exact Nat.le_refl _)] at this
          exact this
        · simp at h
      · simp at h
    · simp at h
/-- Plain data that came in. -/
theorem open_flat {t : TypeId} {v : Value} {dd : DataW H} {ps : List MemPlace} {l : List FK} (hk : flatK P 8 t = some l) (h : DataW.Trod enc P w base spare held t v dd ps) : AllOk l v.cells.toList := by
  obtain ⟨fuel, h⟩ := h
  exact flatK_spec 8 fuel t l _ _ hk h
end
theorem agg_of_cells {v : Value} {l : List Value} (h : v.cells.toList = l) (hl : l.length ≠ 1) : v = .agg l.toArray := by
  cases v with
  | agg cs => have : cs.toList = l := h
              rw [← this]
  | _ => exact absurd (by rw [← h]; rfl) hl
/-- A gate that came in. -/
theorem open_gate {H : Type} {enc : TypeId × Value → H} {P : Program} {w : World} {base : Nat} {spare : Nat → Bool} {held : Bool} {t : TypeId} {v : Value} {dd : DataW H} {ps : List MemPlace} (hk : flatK P 8 t = some [.int .i64, .int .i64])
    (h : DataW.Trod enc P w base spare held t v dd ps) : ∃ g : GateV, v = g.val := by
  have h := open_flat hk h
  cases hc : v.cells.toList with
  | nil => rw [hc] at h; exact h.elim
  | cons a r =>
    cases r with
    | nil => rw [hc] at h; exact h.2.elim
    | cons b r =>
      cases r with
      | nil =>
        rw [hc] at h
        obtain ⟨⟨n, rfl, _⟩, ⟨m, rfl, _⟩, _⟩ := h
        exact ⟨⟨n, m⟩, agg_of_cells hc (by simp)⟩
      | cons _ _ => rw [hc] at h; exact h.2.2.elim
end Go.Proofs.YtcapadojlaojkaaGreat

set_option maxRecDepth 100000
set_option maxHeartbeats 4000000
namespace Go.Proofs.YtcapadojlaojkaaGreat
open Go Go.Vc Go.Proofs

/-- waveport/waveportref01.IntCmp -/
theorem ref1_IntCmp_vc (p0 : WhV) (p1 : WhV) (V : View) (R : Value → View → Prop) 
  (h :
    ((!(p0.neg == p1.neg)) = true →
      (p0.neg = true →
        R (.int .i64 (-1)) V) ∧
      (p0.neg = false →
        R (.int .i64 1) V)) ∧
    ((!(p0.neg == p1.neg)) = false →
      (p0.neg = true →
      CallV Tryz.prog 177 #[p1.mag.v, p0.mag.v] V fun v V1 => ∃ r1 : Int, v = .int .i64 r1 ∧ -- waveportref01.NatCmp
      R (.int .i64 r1) V1) ∧
    (p0.neg = false →
      CallV Tryz.prog 177 #[p0.mag.v, p1.mag.v] V fun v V2 => ∃ r2 : Int, v = .int .i64 r2 ∧ -- waveportref01.NatCmp
    R (.int .i64 r2) V2))) :
  CallV Tryz.prog 176 #[p0.val, p1.val] V R :=
  calls_of_vc (Shp := Shp) hmixed Tryz.func176 (c := Tryz.f176.body.getD .skip) (args := [p0.val, p1.val]) (by kernel_rfl)
    (.seq (.reg [⟨2, 3, false⟩, ⟨3, 3, false⟩, ⟨4, 2, false⟩]) (.seq (.seq (.reg [⟨5, 7, false⟩, ⟨2, 4, false⟩, ⟨7, 7, false⟩, ⟨3, 4, false⟩, ⟨9, 0, false⟩]) (.cond (.seq (.seq (.reg [⟨10, 7, false⟩, ⟨2, 4, false⟩]) (.cond (.seq (.reg [⟨4, 2, false⟩]) .leaf) .leaf)) (.seq (.reg [⟨4, 2, false⟩]) .leaf)) .leaf)) (.seq (.seq (.reg [⟨12, 7, false⟩, ⟨2, 4, false⟩]) (.cond (.seq (.reg [⟨14, 7, false⟩, ⟨3, 4, false⟩, ⟨16, 7, false⟩, ⟨2, 4, false⟩, ⟨18, 10, false⟩, ⟨4, 2, false⟩]) .leaf) .leaf)) (.seq (.reg [⟨19, 7, false⟩, ⟨2, 4, false⟩, ⟨21, 7, false⟩, ⟨3, 4, false⟩, ⟨23, 10, false⟩, ⟨4, 2, false⟩]) .leaf))))
    (Eq.mpr (by kernel_rfl) h)

/-- waveport/waveportref01.Same -/
theorem ref1_Same_vc (p0 : NumV) (p1 : NumV) (V : View) (R : Value → View → Prop) 
  (h :
    CallV Tryz.prog 176 #[p0.re.val, p1.re.val] V fun v V1 => ∃ r1 : Int, v = .int .i64 r1 ∧ -- waveportref01.IntCmp
    (((r1 : Int) == 0) = true →
    CallV Tryz.prog 176 #[p0.im.val, p1.im.val] V1 fun v V2 => ∃ r2 : Int, v = .int .i64 r2 ∧ -- waveportref01.IntCmp
    (((r2 : Int) == 0) = true →
    CallV Tryz.prog 177 #[p0.under.v, p1.under.v] V2 fun v V3 => ∃ r3 : Int, v = .int .i64 r3 ∧ -- waveportref01.NatCmp
    R (.bool ((r3 : Int) == 0)) V3) ∧
    (((r2 : Int) == 0) = false →
    R (.bool false) V2)) ∧
    (((r1 : Int) == 0) = false →
    R (.bool false) V1)) :
  CallV Tryz.prog 126 #[p0.val, p1.val] V R :=
  calls_of_vc (Shp := Shp) hmixed Tryz.func126 (c := Tryz.f126.body.getD .skip) (args := [p0.val, p1.val]) (by kernel_rfl)
    (.seq (.reg [⟨2, 3, false⟩, ⟨3, 3, false⟩, ⟨4, 9, false⟩]) (.seq (.reg [⟨5, 7, false⟩, ⟨2, 4, false⟩, ⟨7, 7, false⟩, ⟨3, 4, false⟩, ⟨9, 10, false⟩, ⟨10, 0, false⟩, ⟨11, 2, true⟩, ⟨12, 7, false⟩, ⟨2, 4, false⟩, ⟨14, 7, false⟩, ⟨3, 4, false⟩, ⟨16, 10, false⟩, ⟨17, 0, false⟩, ⟨18, 20, false⟩, ⟨19, 2, true⟩, ⟨20, 7, false⟩, ⟨2, 4, false⟩, ⟨22, 7, false⟩, ⟨3, 4, false⟩, ⟨24, 10, false⟩, ⟨25, 0, false⟩, ⟨26, 20, false⟩, ⟨4, 2, false⟩]) .leaf))
    (Eq.mpr (by kernel_rfl) h)

/-- waveport/waveportref07.Allowed -/
theorem waveportref07_Allowed_vc (p0 : GateV) (p1 : Int) (V : View) (R : Value → View → Prop) 
  (h :
    ((decide ((p0.from_ : Int) ≥ 0)) = true →
    ((decide ((p0.from_ : Int) < p1)) = true →
    ((decide ((p0.count : Int) ≥ 0)) = true →
    R (.bool (decide ((p0.count : Int) ≤ p1))) V) ∧
    ((decide ((p0.count : Int) ≥ 0)) = false →
    R (.bool false) V)) ∧
    ((decide ((p0.from_ : Int) < p1)) = false →
    R (.bool false) V)) ∧
    ((decide ((p0.from_ : Int) ≥ 0)) = false →
    R (.bool false) V)) :
  CallV Tryz.prog 121 #[p0.val, .int .i64 p1] V R :=
  calls_of_vc (Shp := Shp) hmixed Tryz.func121 (c := Tryz.f121.body.getD .skip) (args := [p0.val, .int .i64 p1]) (by kernel_rfl)
    (.seq (.reg [⟨2, 3, false⟩, ⟨4, 9, false⟩]) (.seq (.reg [⟨5, 7, false⟩, ⟨2, 4, false⟩, ⟨7, 0, false⟩, ⟨8, 2, true⟩, ⟨9, 7, false⟩, ⟨2, 4, false⟩, ⟨11, 2, false⟩, ⟨12, 0, false⟩, ⟨13, 20, false⟩, ⟨14, 2, true⟩, ⟨15, 7, false⟩, ⟨2, 4, false⟩, ⟨17, 0, false⟩, ⟨18, 20, false⟩, ⟨19, 2, true⟩, ⟨20, 7, false⟩, ⟨2, 4, false⟩, ⟨22, 2, false⟩, ⟨23, 0, false⟩, ⟨24, 20, false⟩, ⟨4, 2, false⟩]) .leaf))
    (Eq.mpr (by kernel_rfl) h)

structure L_waveportref07_Inside_0 where
  t6 : Int
  o8 : List Value
def waveportref07_Inside_f0 (p0 : GateV) (p1 : Int) (_c : Unit) (w x : L_waveportref07_Inside_0) : Prop := (Q1 (.val (.int .i64 p1)) ∧ Q1 (.own 2 0) ∧ Q1 (.osl 8 0 (Int.toNat p1) (Int.toNat p1)) ∧ E2 (.val (.int .i64 w.t6)) (.val (.int .i64 x.t6)) ∧ True) ∧ (O2 ⟨89, .fixed [.val (.int .i64 p0.from_), .val (.int .i64 p0.count)]⟩ ⟨89, .fixed [.val (.int .i64 p0.from_), .val (.int .i64 p0.count)]⟩ ∧ O2 ⟨4, .dyn w.o8⟩ ⟨4, .dyn x.o8⟩ ∧ True)
def waveportref07_Inside_sk (p0 : GateV) (p1 : Int) (V : View) (R : Value → View → Prop) (I0 : Unit → L_waveportref07_Inside_0 → View → Prop) (E0 : Unit → L_waveportref07_Inside_0 → View → Prop) (B0 : Unit → L_waveportref07_Inside_0 → View → L_waveportref07_Inside_0 → View → Prop) : Prop :=
    ((0 : Int) ≤ p1 ∧ (p1 : Int) ≤ p1 ∧ (1 : Int) * p1 ≤ 281474976710656 ∧ (p1 : Int) ≤ 9223372036854775807) ∧
    E0 () (L_waveportref07_Inside_0.mk 0 ((List.replicate (Int.toNat p1) [Value.bool false]).flatten)) V ∧
    (∀ (x2 : L_waveportref07_Inside_0) (V1 : View), View.le V V1 → I0 () x2 V1 →
      ((decide ((x2.t6 : Int) < p0.count)) = true →
        (p1 : Int) ≠ 0 ∧
      ((0 : Int) ≤ (Int.tmod (IntKind.i64.wrap (p0.from_ + x2.t6)) p1) ∧ ((Int.tmod (IntKind.i64.wrap (p0.from_ + x2.t6)) p1) : Int) < (Int.toNat p1 : Nat)) ∧
      0 + Int.toNat (Int.tmod (IntKind.i64.wrap (p0.from_ + x2.t6)) p1) * 1 + 1 ≤ List.length x2.o8 ∧
      B0 () (L_waveportref07_Inside_0.mk (IntKind.i64.wrap (x2.t6 + 1)) (List.set x2.o8 (0 + Int.toNat (Int.tmod (IntKind.i64.wrap (p0.from_ + x2.t6)) p1) * 1) (.bool true))) V1 x2 V1) ∧
      ((decide ((x2.t6 : Int) < p0.count)) = false →
        ∀ (b1 : Nat) (V2 : View), View.le V1 V2 → V2 b1 = some (List.toArray x2.o8) →
    R ((Sl.mk (some (Addr.mk b1 0 none)) (Int.toNat p1) (Int.toNat p1)).v) V2))

theorem waveportref07_Inside_v0 (p0 : GateV) (p1 : Int) (V : View) (R : Value → View → Prop) (I0 : Unit → L_waveportref07_Inside_0 → View → Prop) (J0 : Unit → L_waveportref07_Inside_0 → View → Nat) {X : Prop} (e : waveportref07_Inside_sk p0 p1 V R I0 I0 (fun c w V x U => I0 c w V ∧ J0 c w V < J0 c x U) = X) (h : X) :
  CallV Tryz.prog 122 #[p0.val, .int .i64 p1] V R :=
  calls_of_vc (Shp := Shp) hmixed Tryz.func122 (c := Tryz.f122.body.getD .skip) (args := [p0.val, .int .i64 p1]) (by kernel_rfl)
    (.seq (.reg [⟨2, 3, false⟩, ⟨4, 2, false⟩]) (.seq (.reg [⟨7, 2, false⟩, ⟨8, 3, false⟩, ⟨5, 2, false⟩]) (.seq (.seq (.reg [⟨6, 2, false⟩]) (.block (.loop Unit L_waveportref07_Inside_0 (fun _ => ()) (fun c x => { tm := spT 24 0 [(1, .val (.int .i64 p1)), (2, .own 2 0), (5, .osl 8 0 (Int.toNat p1) (Int.toNat p1)), (6, .val (.int .i64 x.t6))], own := spO 24 0 [(2, ⟨89, .fixed [.val (.int .i64 p0.from_), .val (.int .i64 p0.count)]⟩), (8, ⟨4, .dyn x.o8⟩)] }) I0 J0 (.seq (.seq (.reg [⟨9, 2, false⟩, ⟨10, 7, false⟩, ⟨2, 4, false⟩, ⟨12, 0, false⟩]) (.cond .leaf .leaf)) (.seq (.block (.reg [⟨15, 2, false⟩, ⟨16, 7, false⟩, ⟨2, 4, false⟩, ⟨18, 2, false⟩, ⟨19, 0, false⟩, ⟨20, 2, false⟩, ⟨21, 12, false⟩, ⟨22, 7, false⟩, ⟨8, 6, false⟩])) (.reg [⟨13, 2, false⟩, ⟨14, 0, false⟩, ⟨6, 2, false⟩])))))) (.seq (.reg [⟨23, 2, false⟩, ⟨4, 2, false⟩]) (.pub 8 .leaf)))))
    (Eq.mpr (by kernel_rfl) (show waveportref07_Inside_sk p0 p1 V R I0 (fun c w V => ∃ x, waveportref07_Inside_f0 p0 p1 c w x ∧ I0 c x V) (fun c w V y U => ∃ x, waveportref07_Inside_f0 p0 p1 c w x ∧ I0 c x V ∧ J0 c x V < J0 c y U) from by
    have h := Eq.mpr e h; unfold waveportref07_Inside_sk at h ⊢; have Ee0 := fun c w V (h : I0 c w V) => (⟨w, ⟨⟨rfl, rfl, rfl, rfl, trivial⟩, ⟨rfl, rfl, trivial⟩⟩, h⟩ : ∃ x, waveportref07_Inside_f0 p0 p1 c w x ∧ I0 c x V); have Bb0 := fun c w V y U (h : I0 c w V ∧ J0 c w V < J0 c y U) => (⟨w, ⟨⟨rfl, rfl, rfl, rfl, trivial⟩, ⟨rfl, rfl, trivial⟩⟩, h⟩ : ∃ x, waveportref07_Inside_f0 p0 p1 c w x ∧ I0 c x V ∧ J0 c x V < J0 c y U); exact ⟨h.1, ⟨(Ee0 _ _ _ h.2.1), fun x2 V1 h4 h5 => ⟨fun h3 => ⟨((h.2.2 x2 V1 h4 h5).1 h3).1, ⟨((h.2.2 x2 V1 h4 h5).1 h3).2.1, ⟨((h.2.2 x2 V1 h4 h5).1 h3).2.2.1, (Bb0 _ _ _ _ _ ((h.2.2 x2 V1 h4 h5).1 h3).2.2.2)⟩⟩⟩, fun h3 => (fun b1 V2 h1 h2 => (((h.2.2 x2 V1 h4 h5).2 h3) b1 V2 h1 h2))⟩⟩⟩))

/-- waveport/waveportref07.Inside -/
theorem waveportref07_Inside_vc : type_of% (fun p0 p1 V R I0 J0 => waveportref07_Inside_v0 p0 p1 V R I0 J0 (waveportref07_Inside_sk.eq_1 ..)) := fun p0 p1 V R I0 J0 => waveportref07_Inside_v0 p0 p1 V R I0 J0 (waveportref07_Inside_sk.eq_1 ..)

structure L_waveportref07_Near_0 where
  t9 : Int
  o16 : List Value
structure C_waveportref07_Near_0 where
  t7 : Sl
structure L_waveportref07_Near_1 where
  t10 : Int
  o16 : List Value
structure C_waveportref07_Near_1 where
  t7 : Sl
  t9 : Int
structure L_waveportref07_Near_2 where
  t11 : Int
structure C_waveportref07_Near_2 where
  t7 : Sl
  t9 : Int
  t10 : Int
  o16 : List Value
structure L_waveportref07_Near_3 where
  t11 : Int
structure C_waveportref07_Near_3 where
  t7 : Sl
  t9 : Int
  t10 : Int
  o16 : List Value
def waveportref07_Near_f0 (p1 : Int) (p2 : Int) (c : C_waveportref07_Near_0) (w x : L_waveportref07_Near_0) : Prop := (Q1 (.val (.int .i64 p1)) ∧ Q1 (.val (.int .i64 p2)) ∧ Q1 (.val (c.t7.v)) ∧ Q1 (.osl 16 0 (Int.toNat p1) (Int.toNat p1)) ∧ E2 (.val (.int .i64 w.t9)) (.val (.int .i64 x.t9)) ∧ True) ∧ (O2 ⟨4, .dyn w.o16⟩ ⟨4, .dyn x.o16⟩ ∧ True)
def waveportref07_Near_f1 (p1 : Int) (p2 : Int) (c : C_waveportref07_Near_1) (w x : L_waveportref07_Near_1) : Prop := (Q1 (.val (.int .i64 p1)) ∧ Q1 (.val (.int .i64 p2)) ∧ Q1 (.val (c.t7.v)) ∧ Q1 (.osl 16 0 (Int.toNat p1) (Int.toNat p1)) ∧ Q1 (.val (.int .i64 c.t9)) ∧ E2 (.val (.int .i64 w.t10)) (.val (.int .i64 x.t10)) ∧ True) ∧ (O2 ⟨4, .dyn w.o16⟩ ⟨4, .dyn x.o16⟩ ∧ True)
def waveportref07_Near_f2 (p1 : Int) (p2 : Int) (c : C_waveportref07_Near_2) (w x : L_waveportref07_Near_2) : Prop := (Q1 (.val (.int .i64 p1)) ∧ Q1 (.val (.int .i64 p2)) ∧ Q1 (.val (c.t7.v)) ∧ Q1 (.osl 16 0 (Int.toNat p1) (Int.toNat p1)) ∧ Q1 (.val (.int .i64 c.t9)) ∧ Q1 (.val (.int .i64 c.t10)) ∧ E2 (.val (.int .i64 w.t11)) (.val (.int .i64 x.t11)) ∧ True) ∧ (O2 ⟨4, .dyn c.o16⟩ ⟨4, .dyn c.o16⟩ ∧ True)
def waveportref07_Near_f3 (p1 : Int) (p2 : Int) (c : C_waveportref07_Near_3) (w x : L_waveportref07_Near_3) : Prop := (Q1 (.val (.int .i64 p1)) ∧ Q1 (.val (.int .i64 p2)) ∧ Q1 (.val (c.t7.v)) ∧ Q1 (.osl 16 0 (Int.toNat p1) (Int.toNat p1)) ∧ Q1 (.val (.int .i64 c.t9)) ∧ Q1 (.val (.int .i64 c.t10)) ∧ E2 (.val (.int .i64 w.t11)) (.val (.int .i64 x.t11)) ∧ True) ∧ (O2 ⟨4, .dyn c.o16⟩ ⟨4, .dyn c.o16⟩ ∧ True)
def waveportref07_Near_sk (p0 : GateV) (p1 : Int) (p2 : Int) (V : View) (R : Value → View → Prop) (I0 : C_waveportref07_Near_0 → L_waveportref07_Near_0 → View → Prop) (I1 : C_waveportref07_Near_1 → L_waveportref07_Near_1 → View → Prop) (I2 : C_waveportref07_Near_2 → L_waveportref07_Near_2 → View → Prop) (I3 : C_waveportref07_Near_3 → L_waveportref07_Near_3 → View → Prop) (E0 : C_waveportref07_Near_0 → L_waveportref07_Near_0 → View → Prop) (B0 : C_waveportref07_Near_0 → L_waveportref07_Near_0 → View → L_waveportref07_Near_0 → View → Prop) (E1 : C_waveportref07_Near_1 → L_waveportref07_Near_1 → View → Prop) (B1 : C_waveportref07_Near_1 → L_waveportref07_Near_1 → View → L_waveportref07_Near_1 → View → Prop) (E2 : C_waveportref07_Near_2 → L_waveportref07_Near_2 → View → Prop) (E3 : C_waveportref07_Near_3 → L_waveportref07_Near_3 → View → Prop) : Prop :=
    ((0 : Int) ≤ p1 ∧ (p1 : Int) ≤ p1 ∧ (1 : Int) * p1 ≤ 281474976710656 ∧ (p1 : Int) ≤ 9223372036854775807) ∧
    CallV Tryz.prog 122 #[p0.val, .int .i64 p1] V fun v V1 => ∃ r1 : Sl, v = r1.v ∧ -- waveportref07.Inside
    E0 (C_waveportref07_Near_0.mk r1) (L_waveportref07_Near_0.mk 0 ((List.replicate (Int.toNat p1) [Value.bool false]).flatten)) V1 ∧
    (∀ (x2 : L_waveportref07_Near_0) (V2 : View), View.le V1 V2 → I0 (C_waveportref07_Near_0.mk r1) x2 V2 →
      ((decide ((x2.t9 : Int) < p1)) = true →
        E1 (C_waveportref07_Near_1.mk r1 x2.t9) (L_waveportref07_Near_1.mk 0 x2.o16) V2 ∧
      (∀ (x4 : L_waveportref07_Near_1) (V3 : View), View.le V2 V3 → I1 (C_waveportref07_Near_1.mk r1 x2.t9) x4 V3 →
        ((decide ((x4.t10 : Int) < p1)) = true →
          (((decide (((IntKind.i64.wrap (x2.t9 - x4.t10)) : Int) < 0)) = true →
            E2 (C_waveportref07_Near_2.mk r1 x2.t9 x4.t10 x4.o16) (L_waveportref07_Near_2.mk (IntKind.i64.wrap (0 - (IntKind.i64.wrap (x2.t9 - x4.t10))))) V3) ∧
          ((decide (((IntKind.i64.wrap (x2.t9 - x4.t10)) : Int) < 0)) = false →
            E2 (C_waveportref07_Near_2.mk r1 x2.t9 x4.t10 x4.o16) (L_waveportref07_Near_2.mk (IntKind.i64.wrap (x2.t9 - x4.t10))) V3)) ∧
        (∀ (x5 : L_waveportref07_Near_2) (V4 : View), View.le V3 V4 → I2 (C_waveportref07_Near_2.mk r1 x2.t9 x4.t10 x4.o16) x5 V4 →
          (((decide (((IntKind.i64.wrap (p1 - x5.t11)) : Int) < x5.t11)) = true →
              E3 (C_waveportref07_Near_3.mk r1 x2.t9 x4.t10 x4.o16) (L_waveportref07_Near_3.mk (IntKind.i64.wrap (p1 - x5.t11))) V4) ∧
            ((decide (((IntKind.i64.wrap (p1 - x5.t11)) : Int) < x5.t11)) = false →
              E3 (C_waveportref07_Near_3.mk r1 x2.t9 x4.t10 x4.o16) (L_waveportref07_Near_3.mk x5.t11) V4)) ∧
          (∀ (x8 : L_waveportref07_Near_3) (V5 : View), View.le V4 V5 → I3 (C_waveportref07_Near_3.mk r1 x2.t9 x4.t10 x4.o16) x8 V5 →
            ((0 : Int) ≤ x4.t10 ∧ (x4.t10 : Int) < (r1.len : Nat) ∧ Option.isSome r1.a = true) ∧
            ∃ x11 : Bool, View.load V5 (Option.map (fun q => Addr.add q (Int.toNat x4.t10 * 1)) r1.a) = some (.bool x11) ∧
            (x11 = true →
            ((0 : Int) ≤ x2.t9 ∧ (x2.t9 : Int) < (r1.len : Nat) ∧ Option.isSome r1.a = true) ∧
            ∃ x12 : Bool, View.load V5 (Option.map (fun q => Addr.add q (Int.toNat x2.t9 * 1)) r1.a) = some (.bool x12) ∧
            ((!x12) = true →
            ((decide ((x8.t11 : Int) ≤ p2)) = true →
              ((0 : Int) ≤ x2.t9 ∧ (x2.t9 : Int) < (Int.toNat p1 : Nat)) ∧
              0 + Int.toNat x2.t9 * 1 + 1 ≤ List.length x4.o16 ∧
              B1 (C_waveportref07_Near_1.mk r1 x2.t9) (L_waveportref07_Near_1.mk (IntKind.i64.wrap (x4.t10 + 1)) (List.set x4.o16 (0 + Int.toNat x2.t9 * 1) (.bool true))) V5 x4 V3) ∧
            ((decide ((x8.t11 : Int) ≤ p2)) = false →
              B1 (C_waveportref07_Near_1.mk r1 x2.t9) (L_waveportref07_Near_1.mk (IntKind.i64.wrap (x4.t10 + 1)) x4.o16) V5 x4 V3)) ∧
            ((!x12) = false →
            B1 (C_waveportref07_Near_1.mk r1 x2.t9) (L_waveportref07_Near_1.mk (IntKind.i64.wrap (x4.t10 + 1)) x4.o16) V5 x4 V3)) ∧
            (x11 = false →
            B1 (C_waveportref07_Near_1.mk r1 x2.t9) (L_waveportref07_Near_1.mk (IntKind.i64.wrap (x4.t10 + 1)) x4.o16) V5 x4 V3)))) ∧
        ((decide ((x4.t10 : Int) < p1)) = false →
          B0 (C_waveportref07_Near_0.mk r1) (L_waveportref07_Near_0.mk (IntKind.i64.wrap (x2.t9 + 1)) x4.o16) V3 x2 V2))) ∧
      ((decide ((x2.t9 : Int) < p1)) = false →
        ∀ (b1 : Nat) (V6 : View), View.le V2 V6 → V6 b1 = some (List.toArray x2.o16) →
    R ((Sl.mk (some (Addr.mk b1 0 none)) (Int.toNat p1) (Int.toNat p1)).v) V6))

theorem waveportref07_Near_v0 (p0 : GateV) (p1 : Int) (p2 : Int) (V : View) (R : Value → View → Prop) (I0 : C_waveportref07_Near_0 → L_waveportref07_Near_0 → View → Prop) (J0 : C_waveportref07_Near_0 → L_waveportref07_Near_0 → View → Nat) (I1 : C_waveportref07_Near_1 → L_waveportref07_Near_1 → View → Prop) (J1 : C_waveportref07_Near_1 → L_waveportref07_Near_1 → View → Nat) (I2 : C_waveportref07_Near_2 → L_waveportref07_Near_2 → View → Prop) (I3 : C_waveportref07_Near_3 → L_waveportref07_Near_3 → View → Prop) {X : Prop} (e : waveportref07_Near_sk p0 p1 p2 V R I0 I1 I2 I3 I0 (fun c w V x U => I0 c w V ∧ J0 c w V < J0 c x U) I1 (fun c w V x U => I1 c w V ∧ J1 c w V < J1 c x U) I2 I3 = X) (h : X) :
  CallV Tryz.prog 125 #[p0.val, .int .i64 p1, .int .i64 p2] V R :=
  calls_of_vc (Shp := Shp) hmixed Tryz.func125 (c := Tryz.f125.body.getD .skip) (args := [p0.val, .int .i64 p1, .int .i64 p2]) (by kernel_rfl)
    (.seq (.reg [⟨3, 3, false⟩, ⟨6, 2, false⟩]) (.seq (.draw [(0, ⟨3, 4, false⟩), (1, ⟨13, 2, false⟩), (3, ⟨15, 2, false⟩), (4, ⟨16, 3, false⟩), (2, ⟨14, 10, false⟩), (5, ⟨7, 2, false⟩), (6, ⟨8, 2, false⟩)] [0, 0, 3, 0, 8, 7, 63]) (.seq (.seq (.reg [⟨9, 2, false⟩]) (.block (.loop C_waveportref07_Near_0 L_waveportref07_Near_0 (fun σ => C_waveportref07_Near_0.mk (Sl.mk (gSlA (gTm σ 7)) (gSlL (gTm σ 7)) (gSlC (gTm σ 7)))) (fun c x => { tm := spT 62 0 [(1, .val (.int .i64 p1)), (2, .val (.int .i64 p2)), (7, .val (c.t7.v)), (8, .osl 16 0 (Int.toNat p1) (Int.toNat p1)), (9, .val (.int .i64 x.t9))], own := spO 62 0 [(16, ⟨4, .dyn x.o16⟩)] }) I0 J0 (.seq (.seq (.reg [⟨17, 2, false⟩, ⟨18, 2, false⟩, ⟨19, 0, false⟩]) (.cond .leaf .leaf)) (.seq (.block (.seq (.reg [⟨10, 2, false⟩]) (.block (.loop C_waveportref07_Near_1 L_waveportref07_Near_1 (fun σ => C_waveportref07_Near_1.mk (Sl.mk (gSlA (gTm σ 7)) (gSlL (gTm σ 7)) (gSlC (gTm σ 7))) (gInt (gTm σ 9))) (fun c x => { tm := spT 62 0 [(1, .val (.int .i64 p1)), (2, .val (.int .i64 p2)), (7, .val (c.t7.v)), (8, .osl 16 0 (Int.toNat p1) (Int.toNat p1)), (9, .val (.int .i64 c.t9)), (10, .val (.int .i64 x.t10))], own := spO 62 0 [(16, ⟨4, .dyn x.o16⟩)] }) I1 J1 (.seq (.seq (.reg [⟨22, 2, false⟩, ⟨23, 2, false⟩, ⟨24, 0, false⟩]) (.cond .leaf .leaf)) (.seq (.block (.seq (.reg [⟨27, 2, false⟩, ⟨28, 2, false⟩, ⟨29, 0, false⟩, ⟨11, 2, false⟩]) (.cut C_waveportref07_Near_2 L_waveportref07_Near_2 (fun σ => C_waveportref07_Near_2.mk (Sl.mk (gSlA (gTm σ 7)) (gSlL (gTm σ 7)) (gSlC (gTm σ 7))) (gInt (gTm σ 9)) (gInt (gTm σ 10)) (gDyn σ 16)) (fun c x => { tm := spT 62 0 [(1, .val (.int .i64 p1)), (2, .val (.int .i64 p2)), (7, .val (c.t7.v)), (8, .osl 16 0 (Int.toNat p1) (Int.toNat p1)), (9, .val (.int .i64 c.t9)), (10, .val (.int .i64 c.t10)), (11, .val (.int .i64 x.t11))], own := spO 62 0 [(16, ⟨4, .dyn c.o16⟩)] }) I2 (.seq (.reg [⟨30, 2, false⟩, ⟨31, 0, false⟩]) (.cond (.reg [⟨32, 2, false⟩, ⟨33, 0, false⟩, ⟨11, 2, false⟩]) .leaf)) (.cut C_waveportref07_Near_3 L_waveportref07_Near_3 (fun σ => C_waveportref07_Near_3.mk (Sl.mk (gSlA (gTm σ 7)) (gSlL (gTm σ 7)) (gSlC (gTm σ 7))) (gInt (gTm σ 9)) (gInt (gTm σ 10)) (gDyn σ 16)) (fun c x => { tm := spT 62 0 [(1, .val (.int .i64 p1)), (2, .val (.int .i64 p2)), (7, .val (c.t7.v)), (8, .osl 16 0 (Int.toNat p1) (Int.toNat p1)), (9, .val (.int .i64 c.t9)), (10, .val (.int .i64 c.t10)), (11, .val (.int .i64 x.t11))], own := spO 62 0 [(16, ⟨4, .dyn c.o16⟩)] }) I3 (.seq (.reg [⟨34, 2, false⟩, ⟨35, 2, false⟩, ⟨36, 0, false⟩, ⟨37, 2, false⟩, ⟨38, 0, false⟩]) (.cond (.reg [⟨39, 2, false⟩, ⟨40, 2, false⟩, ⟨41, 0, false⟩, ⟨11, 2, false⟩]) .leaf)) (.seq (.reg [⟨42, 2, false⟩, ⟨43, 2, false⟩, ⟨44, 7, false⟩, ⟨45, 5, false⟩, ⟨46, 2, true⟩, ⟨47, 2, false⟩, ⟨48, 2, false⟩, ⟨49, 7, false⟩, ⟨50, 5, false⟩, ⟨51, 20, false⟩, ⟨52, 20, false⟩, ⟨53, 2, true⟩, ⟨54, 2, false⟩, ⟨55, 2, false⟩, ⟨56, 0, false⟩, ⟨57, 20, false⟩]) (.cond (.reg [⟨58, 2, false⟩, ⟨59, 2, false⟩, ⟨60, 7, false⟩, ⟨16, 6, false⟩]) .leaf)))))) (.reg [⟨25, 2, false⟩, ⟨26, 0, false⟩, ⟨10, 2, false⟩]))))))) (.reg [⟨20, 2, false⟩, ⟨21, 0, false⟩, ⟨9, 2, false⟩])))))) (.seq (.reg [⟨61, 2, false⟩, ⟨6, 2, false⟩]) (.pub 16 .leaf)))))
    (Eq.mpr (by kernel_rfl) (show waveportref07_Near_sk p0 p1 p2 V R I0 I1 I2 I3 (fun c w V => ∃ x, waveportref07_Near_f0 p1 p2 c w x ∧ I0 c x V) (fun c w V y U => ∃ x, waveportref07_Near_f0 p1 p2 c w x ∧ I0 c x V ∧ J0 c x V < J0 c y U) (fun c w V => ∃ x, waveportref07_Near_f1 p1 p2 c w x ∧ I1 c x V) (fun c w V y U => ∃ x, waveportref07_Near_f1 p1 p2 c w x ∧ I1 c x V ∧ J1 c x V < J1 c y U) (fun c w V => ∃ x, waveportref07_Near_f2 p1 p2 c w x ∧ I2 c x V) (fun c w V => ∃ x, waveportref07_Near_f3 p1 p2 c w x ∧ I3 c x V) from by
    have h := Eq.mpr e h; unfold waveportref07_Near_sk at h ⊢; have Ee0 := fun c w V (h : I0 c w V) => (⟨w, ⟨⟨rfl, rfl, rfl, rfl, rfl, trivial⟩, ⟨rfl, trivial⟩⟩, h⟩ : ∃ x, waveportref07_Near_f0 p1 p2 c w x ∧ I0 c x V); have Bb0 := fun c w V y U (h : I0 c w V ∧ J0 c w V < J0 c y U) => (⟨w, ⟨⟨rfl, rfl, rfl, rfl, rfl, trivial⟩, ⟨rfl, trivial⟩⟩, h⟩ : ∃ x, waveportref07_Near_f0 p1 p2 c w x ∧ I0 c x V ∧ J0 c x V < J0 c y U); have Ee1 := fun c w V (h : I1 c w V) => (⟨w, ⟨⟨rfl, rfl, rfl, rfl, rfl, rfl, trivial⟩, ⟨rfl, trivial⟩⟩, h⟩ : ∃ x, waveportref07_Near_f1 p1 p2 c w x ∧ I1 c x V); have Bb1 := fun c w V y U (h : I1 c w V ∧ J1 c w V < J1 c y U) => (⟨w, ⟨⟨rfl, rfl, rfl, rfl, rfl, rfl, trivial⟩, ⟨rfl, trivial⟩⟩, h⟩ : ∃ x, waveportref07_Near_f1 p1 p2 c w x ∧ I1 c x V ∧ J1 c x V < J1 c y U); have Ee2 := fun c w V (h : I2 c w V) => (⟨w, ⟨⟨rfl, rfl, rfl, rfl, rfl, rfl, rfl, trivial⟩, ⟨rfl, trivial⟩⟩, h⟩ : ∃ x, waveportref07_Near_f2 p1 p2 c w x ∧ I2 c x V); have Ee3 := fun c w V (h : I3 c w V) => (⟨w, ⟨⟨rfl, rfl, rfl, rfl, rfl, rfl, rfl, trivial⟩, ⟨rfl, trivial⟩⟩, h⟩ : ∃ x, waveportref07_Near_f3 p1 p2 c w x ∧ I3 c x V); exact ⟨h.1, (CallV.mono h.2 (fun _ _ _ ⟨r1, h23, h22⟩ => ⟨r1, h23, ⟨(Ee0 _ _ _ h22.1), fun x2 V2 h20 h21 => ⟨fun h19 => ⟨(Ee1 _ _ _ ((h22.2 x2 V2 h20 h21).1 h19).1), fun x4 V3 h15 h16 => ⟨fun h14 => ⟨⟨fun h1 => (Ee2 _ _ _ (((((h22.2 x2 V2 h20 h21).1 h19).2 x4 V3 h15 h16).1 h14).1.1 h1)), fun h1 => (Ee2 _ _ _ (((((h22.2 x2 V2 h20 h21).1 h19).2 x4 V3 h15 h16).1 h14).1.2 h1))⟩, fun x5 V4 h12 h13 => ⟨⟨fun h2 => (Ee3 _ _ _ ((((((h22.2 x2 V2 h20 h21).1 h19).2 x4 V3 h15 h16).1 h14).2 x5 V4 h12 h13).1.1 h2)), fun h2 => (Ee3 _ _ _ ((((((h22.2 x2 V2 h20 h21).1 h19).2 x4 V3 h15 h16).1 h14).2 x5 V4 h12 h13).1.2 h2))⟩, fun x8 V5 h10 h11 => ⟨((((((h22.2 x2 V2 h20 h21).1 h19).2 x4 V3 h15 h16).1 h14).2 x5 V4 h12 h13).2 x8 V5 h10 h11).1, (match ((((((h22.2 x2 V2 h20 h21).1 h19).2 x4 V3 h15 h16).1 h14).2 x5 V4 h12 h13).2 x8 V5 h10 h11).2 with | ⟨x11, h9, h8⟩ => ⟨x11, h9, ⟨fun h7 => ⟨(h8.1 h7).1, (match (h8.1 h7).2 with | ⟨x12, h6, h5⟩ => ⟨x12, h6, ⟨fun h4 => ⟨fun h3 => ⟨((h5.1 h4).1 h3).1, ⟨((h5.1 h4).1 h3).2.1, (Bb1 _ _ _ _ _ ((h5.1 h4).1 h3).2.2)⟩⟩, fun h3 => (Bb1 _ _ _ _ _ ((h5.1 h4).2 h3))⟩, fun h4 => (Bb1 _ _ _ _ _ (h5.2 h4))⟩⟩)⟩, fun h7 => (Bb1 _ _ _ _ _ (h8.2 h7))⟩⟩)⟩⟩⟩, fun h14 => (Bb0 _ _ _ _ _ ((((h22.2 x2 V2 h20 h21).1 h19).2 x4 V3 h15 h16).2 h14))⟩⟩, fun h19 => (fun b1 V6 h17 h18 => (((h22.2 x2 V2 h20 h21).2 h19) b1 V6 h17 h18))⟩⟩⟩))⟩))

/-- waveport/waveportref07.Near -/
theorem waveportref07_Near_vc : type_of% (fun p0 p1 p2 V R I0 J0 I1 J1 I2 I3 => waveportref07_Near_v0 p0 p1 p2 V R I0 J0 I1 J1 I2 I3 (waveportref07_Near_sk.eq_1 ..)) := fun p0 p1 p2 V R I0 J0 I1 J1 I2 I3 => waveportref07_Near_v0 p0 p1 p2 V R I0 J0 I1 J1 I2 I3 (waveportref07_Near_sk.eq_1 ..)

structure L_waveportref07_Cut_0 where
  t8 : Int
  o24 : List Value
structure C_waveportref07_Cut_0 where
  t6 : Sl
def waveportref07_Cut_f0 (p0 : Sl) (c : C_waveportref07_Cut_0) (w x : L_waveportref07_Cut_0) : Prop := (Q1 (.val (p0.v)) ∧ Q1 (.val (c.t6.v)) ∧ Q1 (.osl 24 0 (Int.toNat (p0.len : Int)) (Int.toNat (p0.len : Int))) ∧ E2 (.val (.int .i64 w.t8)) (.val (.int .i64 x.t8)) ∧ True) ∧ (O2 ⟨165, .dyn w.o24⟩ ⟨165, .dyn x.o24⟩ ∧ True)
def waveportref07_Cut_sk (p0 : Sl) (p1 : GateV) (V : View) (R : Value → View → Prop) (I0 : C_waveportref07_Cut_0 → L_waveportref07_Cut_0 → View → Prop) (E0 : C_waveportref07_Cut_0 → L_waveportref07_Cut_0 → View → Prop) (B0 : C_waveportref07_Cut_0 → L_waveportref07_Cut_0 → View → L_waveportref07_Cut_0 → View → Prop) : Prop :=
    CallV Tryz.prog 120 #[.int .i64 (p0.len : Int)] V fun v V1 => ∃ r1 : Bool, v = .bool r1 ∧ -- waveportref07.Length
    ((!r1) = true →
      R (.tuple #[(Sl.mk none 0 0).v, .int .i64 4]) V1) ∧
    ((!r1) = false →
      CallV Tryz.prog 121 #[p1.val, .int .i64 (p0.len : Int)] V1 fun v V2 => ∃ r2 : Bool, v = .bool r2 ∧ -- waveportref07.Allowed
    ((!r2) = true →
      R (.tuple #[(Sl.mk none 0 0).v, .int .i64 1]) V2) ∧
    ((!r2) = false →
      CallV Tryz.prog 122 #[p1.val, .int .i64 (p0.len : Int)] V2 fun v V3 => ∃ r3 : Sl, v = r3.v ∧ -- waveportref07.Inside
    ((0 : Int) ≤ (p0.len : Int) ∧ ((p0.len : Int) : Int) ≤ (p0.len : Int) ∧ (88 : Int) * (p0.len : Int) ≤ 281474976710656 ∧ ((p0.len : Int) : Int) ≤ 9223372036854775807) ∧
    E0 (C_waveportref07_Cut_0.mk r3) (L_waveportref07_Cut_0.mk 0 ((List.replicate (Int.toNat (p0.len : Int)) [Value.bool false, Value.slice none 0 0, Value.bool false, Value.slice none 0 0, Value.slice none 0 0]).flatten)) V3 ∧
    (∀ (x2 : L_waveportref07_Cut_0) (V4 : View), View.le V3 V4 → I0 (C_waveportref07_Cut_0.mk r3) x2 V4 →
      ((decide ((x2.t8 : Int) < (p0.len : Int))) = true →
        CallV Tryz.prog 123 #[.int .i64 0] V4 fun v V5 => ∃ r4 : NumV, v = r4.val ∧ -- waveportref01.Whole
      ((0 : Int) ≤ x2.t8 ∧ (x2.t8 : Int) < (Int.toNat (p0.len : Int) : Nat)) ∧
      0 + Int.toNat x2.t8 * 5 + 5 ≤ List.length x2.o24 ∧
      ((0 : Int) ≤ x2.t8 ∧ (x2.t8 : Int) < (r3.len : Nat) ∧ Option.isSome r3.a = true) ∧
      ∃ x3 : Bool, View.load V5 (Option.map (fun q => Addr.add q (Int.toNat x2.t8 * 1)) r3.a) = some (.bool x3) ∧
      (x3 = true →
        ((0 : Int) ≤ x2.t8 ∧ (x2.t8 : Int) < (p0.len : Nat) ∧ Option.isSome p0.a = true) ∧
        ∃ x4 : NumV, View.has V5 (Option.map (fun q => Addr.add q (Int.toNat x2.t8 * 5)) p0.a) (x4.val).cells.toList ∧ Option.isSome (Option.map (fun q => Addr.add q (Int.toNat x2.t8 * 5)) p0.a) = true ∧
        ((0 : Int) ≤ x2.t8 ∧ (x2.t8 : Int) < (Int.toNat (p0.len : Int) : Nat)) ∧
        0 + Int.toNat x2.t8 * 5 + 5 ≤ List.length (setL x2.o24 (0 + Int.toNat x2.t8 * 5) [.bool r4.re.neg, r4.re.mag.v, .bool r4.im.neg, r4.im.mag.v, r4.under.v]) ∧
        B0 (C_waveportref07_Cut_0.mk r3) (L_waveportref07_Cut_0.mk (IntKind.i64.wrap (x2.t8 + 1)) (setL (setL x2.o24 (0 + Int.toNat x2.t8 * 5) [.bool r4.re.neg, r4.re.mag.v, .bool r4.im.neg, r4.im.mag.v, r4.under.v]) (0 + Int.toNat x2.t8 * 5) [.bool x4.re.neg, x4.re.mag.v, .bool x4.im.neg, x4.im.mag.v, x4.under.v])) V5 x2 V4) ∧
      (x3 = false →
        B0 (C_waveportref07_Cut_0.mk r3) (L_waveportref07_Cut_0.mk (IntKind.i64.wrap (x2.t8 + 1)) (setL x2.o24 (0 + Int.toNat x2.t8 * 5) [.bool r4.re.neg, r4.re.mag.v, .bool r4.im.neg, r4.im.mag.v, r4.under.v])) V5 x2 V4)) ∧
      ((decide ((x2.t8 : Int) < (p0.len : Int))) = false →
        ∀ (b1 : Nat) (V6 : View), View.le V4 V6 → V6 b1 = some (List.toArray x2.o24) →
    R (.tuple #[(Sl.mk (some (Addr.mk b1 0 none)) (Int.toNat (p0.len : Int)) (Int.toNat (p0.len : Int))).v, .int .i64 0]) V6))))

theorem waveportref07_Cut_v0 (p0 : Sl) (p1 : GateV) (V : View) (R : Value → View → Prop) (I0 : C_waveportref07_Cut_0 → L_waveportref07_Cut_0 → View → Prop) (J0 : C_waveportref07_Cut_0 → L_waveportref07_Cut_0 → View → Nat) {X : Prop} (e : waveportref07_Cut_sk p0 p1 V R I0 I0 (fun c w V x U => I0 c w V ∧ J0 c w V < J0 c x U) = X) (h : X) :
  CallV Tryz.prog 51 #[p0.v, p1.val] V R :=
  calls_of_vc (Shp := Shp) hmixed Tryz.func51 (c := Tryz.f51.body.getD .skip) (args := [p0.v, p1.val]) (by kernel_rfl)
    (.seq (.reg [⟨3, 3, false⟩, ⟨4, 2, false⟩, ⟨5, 2, false⟩]) (.seq (.seq (.reg [⟨9, 2, false⟩, ⟨10, 0, false⟩, ⟨11, 10, false⟩, ⟨12, 20, false⟩]) (.cond (.seq (.reg [⟨4, 2, false⟩, ⟨5, 2, false⟩]) .leaf) .leaf)) (.seq (.seq (.reg [⟨3, 4, false⟩, ⟨14, 2, false⟩, ⟨15, 0, false⟩, ⟨16, 10, false⟩, ⟨17, 20, false⟩]) (.cond (.seq (.reg [⟨4, 2, false⟩, ⟨5, 2, false⟩]) .leaf) .leaf)) (.seq (.reg [⟨3, 4, false⟩, ⟨19, 2, false⟩, ⟨20, 0, false⟩, ⟨21, 10, false⟩, ⟨6, 2, false⟩]) (.seq (.reg [⟨22, 2, false⟩, ⟨23, 0, false⟩, ⟨24, 3, false⟩, ⟨7, 2, false⟩]) (.seq (.seq (.reg [⟨8, 2, false⟩]) (.block (.loop C_waveportref07_Cut_0 L_waveportref07_Cut_0 (fun σ => C_waveportref07_Cut_0.mk (Sl.mk (gSlA (gTm σ 6)) (gSlL (gTm σ 6)) (gSlC (gTm σ 6)))) (fun c x => { tm := spT 47 0 [(0, .val (p0.v)), (6, .val (c.t6.v)), (7, .osl 24 0 (Int.toNat (p0.len : Int)) (Int.toNat (p0.len : Int))), (8, .val (.int .i64 x.t8))], own := spO 47 0 [(24, ⟨165, .dyn x.o24⟩)] }) I0 J0 (.seq (.seq (.reg [⟨25, 2, false⟩, ⟨26, 2, false⟩, ⟨27, 0, false⟩, ⟨28, 0, false⟩]) (.cond .leaf .leaf)) (.seq (.block (.seq (.reg [⟨31, 2, false⟩, ⟨32, 2, false⟩, ⟨33, 10, false⟩, ⟨34, 7, false⟩, ⟨24, 6, false⟩]) (.seq (.reg [⟨35, 2, false⟩, ⟨36, 2, false⟩, ⟨37, 7, false⟩, ⟨38, 5, false⟩]) (.cond (.reg [⟨39, 2, false⟩, ⟨40, 2, false⟩, ⟨41, 2, false⟩, ⟨42, 2, false⟩, ⟨43, 7, false⟩, ⟨44, 5, false⟩, ⟨45, 7, false⟩, ⟨24, 6, false⟩]) .leaf)))) (.reg [⟨29, 2, false⟩, ⟨30, 0, false⟩, ⟨8, 2, false⟩])))))) (.seq (.reg [⟨46, 2, false⟩, ⟨4, 2, false⟩, ⟨5, 2, false⟩]) (.pub 24 .leaf))))))))
    (Eq.mpr (by kernel_rfl) (show waveportref07_Cut_sk p0 p1 V R I0 (fun c w V => ∃ x, waveportref07_Cut_f0 p0 c w x ∧ I0 c x V) (fun c w V y U => ∃ x, waveportref07_Cut_f0 p0 c w x ∧ I0 c x V ∧ J0 c x V < J0 c y U) from by
    have h := Eq.mpr e h; unfold waveportref07_Cut_sk at h ⊢; have Ee0 := fun c w V (h : I0 c w V) => (⟨w, ⟨⟨rfl, rfl, rfl, rfl, trivial⟩, ⟨rfl, trivial⟩⟩, h⟩ : ∃ x, waveportref07_Cut_f0 p0 c w x ∧ I0 c x V); have Bb0 := fun c w V y U (h : I0 c w V ∧ J0 c w V < J0 c y U) => (⟨w, ⟨⟨rfl, rfl, rfl, rfl, trivial⟩, ⟨rfl, trivial⟩⟩, h⟩ : ∃ x, waveportref07_Cut_f0 p0 c w x ∧ I0 c x V ∧ J0 c x V < J0 c y U); exact (CallV.mono h (fun _ _ _ ⟨r1, h21, h20⟩ => ⟨r1, h21, ⟨fun h19 => (h20.1 h19), fun h19 => (CallV.mono (h20.2 h19) (fun _ _ _ ⟨r2, h18, h17⟩ => ⟨r2, h18, ⟨fun h16 => (h17.1 h16), fun h16 => (CallV.mono (h17.2 h16) (fun _ _ _ ⟨r3, h15, h14⟩ => ⟨r3, h15, ⟨h14.1, ⟨(Ee0 _ _ _ h14.2.1), fun x2 V4 h12 h13 => ⟨fun h11 => (CallV.mono ((h14.2.2 x2 V4 h12 h13).1 h11) (fun _ _ _ ⟨r4, h8, h7⟩ => ⟨r4, h8, ⟨h7.1, ⟨h7.2.1, ⟨h7.2.2.1, (match h7.2.2.2 with | ⟨x3, h6, h5⟩ => ⟨x3, h6, ⟨fun h4 => ⟨(h5.1 h4).1, (match (h5.1 h4).2 with | ⟨x4, h2, h3, h1⟩ => ⟨x4, h2, h3, ⟨h1.1, ⟨h1.2.1, (Bb0 _ _ _ _ _ h1.2.2)⟩⟩⟩)⟩, fun h4 => (Bb0 _ _ _ _ _ (h5.2 h4))⟩⟩)⟩⟩⟩⟩)), fun h11 => (fun b1 V6 h9 h10 => (((h14.2.2 x2 V4 h12 h13).2 h11) b1 V6 h9 h10))⟩⟩⟩⟩))⟩⟩))⟩⟩))))

/-- waveport/waveportref07.Cut -/
theorem waveportref07_Cut_vc : type_of% (fun p0 p1 V R I0 J0 => waveportref07_Cut_v0 p0 p1 V R I0 J0 (waveportref07_Cut_sk.eq_1 ..)) := fun p0 p1 V R I0 J0 => waveportref07_Cut_v0 p0 p1 V R I0 J0 (waveportref07_Cut_sk.eq_1 ..)

/-- waveport/waveportref07.Rest -/
theorem waveportref07_Rest_vc (p0 : GateV) (p1 : Int) (V : View) (R : Value → View → Prop) 
  (h :
    CallV Tryz.prog 120 #[.int .i64 p1] V fun v V1 => ∃ r1 : Bool, v = .bool r1 ∧ -- waveportref07.Length
    ((!r1) = true →
      R (.tuple #[(GateV.mk 0 0).val, .int .i64 4]) V1) ∧
    ((!r1) = false →
      CallV Tryz.prog 121 #[p0.val, .int .i64 p1] V1 fun v V2 => ∃ r2 : Bool, v = .bool r2 ∧ -- waveportref07.Allowed
    ((!r2) = true →
      R (.tuple #[(GateV.mk 0 0).val, .int .i64 1]) V2) ∧
    ((!r2) = false →
      (p1 : Int) ≠ 0 ∧
    R (.tuple #[(GateV.mk (Int.tmod (IntKind.i64.wrap (p0.from_ + p0.count)) p1) (IntKind.i64.wrap (p1 - p0.count))).val, .int .i64 0]) V2))) :
  CallV Tryz.prog 53 #[p0.val, .int .i64 p1] V R :=
  calls_of_vc (Shp := Shp) hmixed Tryz.func53 (c := Tryz.f53.body.getD .skip) (args := [p0.val, .int .i64 p1]) (by kernel_rfl)
    (.seq (.reg [⟨2, 3, false⟩, ⟨4, 3, false⟩, ⟨5, 2, false⟩]) (.seq (.seq (.reg [⟨6, 2, false⟩, ⟨7, 10, false⟩, ⟨8, 20, false⟩]) (.cond (.seq (.reg [⟨9, 0, false⟩, ⟨4, 6, false⟩, ⟨5, 2, false⟩]) .leaf) .leaf)) (.seq (.seq (.reg [⟨2, 4, false⟩, ⟨11, 2, false⟩, ⟨12, 10, false⟩, ⟨13, 20, false⟩]) (.cond (.seq (.reg [⟨14, 0, false⟩, ⟨4, 6, false⟩, ⟨5, 2, false⟩]) .leaf) .leaf)) (.seq (.draw [(0, ⟨15, 7, false⟩), (1, ⟨2, 4, false⟩), (2, ⟨17, 7, false⟩), (3, ⟨2, 4, false⟩), (4, ⟨19, 0, false⟩), (5, ⟨20, 2, false⟩), (6, ⟨21, 12, false⟩), (7, ⟨22, 2, false⟩), (8, ⟨23, 7, false⟩), (9, ⟨2, 4, false⟩), (10, ⟨25, 0, false⟩), (11, ⟨26, 0, false⟩), (12, ⟨4, 6, false⟩), (13, ⟨5, 2, false⟩)] [0, 1, 0, 4, 15, 0, 63, 0, 0, 256, 896, 2047, 4095, 8191]) .leaf))))
    (Eq.mpr (by kernel_rfl) h)

/-- waveport/waveportref07.Gated -/
theorem waveportref07_Gated_vc (p0 : Sl) (p1 : Sl) (p2 : GateV) (V : View) (R : Value → View → Prop) 
  (h :
    CallV Tryz.prog 49 #[p0.v, p1.v] V fun v V1 => ∃ (r1 : Sl) (r2 : Int), v = .tuple #[r1.v, .int .i64 r2] ∧ -- waveportref07.FastBack
    (((r2 : Int) != 0) = true →
      R (.tuple #[(Sl.mk none 0 0).v, .int .i64 r2]) V1) ∧
    (((r2 : Int) != 0) = false →
      CallV Tryz.prog 51 #[r1.v, p2.val] V1 fun v V2 => ∃ (r3 : Sl) (r4 : Int), v = .tuple #[r3.v, .int .i64 r4] ∧ -- waveportref07.Cut
    (((r4 : Int) != 0) = true →
      R (.tuple #[(Sl.mk none 0 0).v, .int .i64 r4]) V2) ∧
    (((r4 : Int) != 0) = false →
      CallV Tryz.prog 47 #[r3.v, p1.v] V2 fun v V3 => ∃ (r5 : Sl) (r6 : Int), v = .tuple #[r5.v, .int .i64 r6] ∧ -- waveportref07.Fast
    R (.tuple #[r5.v, .int .i64 r6]) V3))) :
  CallV Tryz.prog 55 #[p0.v, p1.v, p2.val] V R :=
  calls_of_vc (Shp := Shp) hmixed Tryz.func55 (c := Tryz.f55.body.getD .skip) (args := [p0.v, p1.v, p2.val]) (by kernel_rfl)
    (.seq (.reg [⟨5, 3, false⟩, ⟨6, 2, false⟩, ⟨7, 2, false⟩]) (.seq (.reg [⟨13, 2, false⟩, ⟨14, 2, false⟩, ⟨15, 10, false⟩, ⟨12, 2, false⟩, ⟨16, 0, false⟩, ⟨17, 0, false⟩, ⟨8, 2, false⟩, ⟨9, 2, false⟩]) (.seq (.seq (.reg [⟨18, 2, false⟩, ⟨19, 0, false⟩]) (.cond (.seq (.reg [⟨20, 2, false⟩, ⟨6, 2, false⟩, ⟨7, 2, false⟩]) .leaf) .leaf)) (.seq (.reg [⟨22, 2, false⟩, ⟨5, 4, false⟩, ⟨24, 10, false⟩, ⟨21, 2, false⟩, ⟨25, 0, false⟩, ⟨26, 0, false⟩, ⟨10, 2, false⟩, ⟨11, 2, false⟩]) (.seq (.seq (.reg [⟨27, 2, false⟩, ⟨28, 0, false⟩]) (.cond (.seq (.reg [⟨29, 2, false⟩, ⟨6, 2, false⟩, ⟨7, 2, false⟩]) .leaf) .leaf)) (.seq (.reg [⟨30, 2, false⟩, ⟨31, 2, false⟩, ⟨32, 10, false⟩, ⟨33, 0, false⟩, ⟨34, 0, false⟩, ⟨6, 2, false⟩, ⟨7, 2, false⟩]) .leaf))))))
    (Eq.mpr (by kernel_rfl) h)

structure L_waveportref07_Touched_0 where
  t9l : Nat
  t9c : Nat
  t10 : Int
  o25 : List Value
structure C_waveportref07_Touched_0 where
  t8 : Sl
def waveportref07_Touched_f0 (p0 : Sl) (c : C_waveportref07_Touched_0) (w x : L_waveportref07_Touched_0) : Prop := (Q1 (.val (p0.v)) ∧ Q1 (.val (c.t8.v)) ∧ E2 (.les 25 w.t9l w.t9c) (.les 25 x.t9l x.t9c) ∧ E2 (.val (.int .i64 w.t10)) (.val (.int .i64 x.t10)) ∧ True) ∧ (O2 ⟨3, .list w.o25⟩ ⟨3, .list x.o25⟩ ∧ True)
def waveportref07_Touched_sk (p0 : Sl) (p1 : GateV) (p2 : Int) (V : View) (R : Value → View → Prop) (I0 : C_waveportref07_Touched_0 → L_waveportref07_Touched_0 → View → Prop) (E0 : C_waveportref07_Touched_0 → L_waveportref07_Touched_0 → View → Prop) (B0 : C_waveportref07_Touched_0 → L_waveportref07_Touched_0 → View → L_waveportref07_Touched_0 → View → Prop) : Prop :=
    CallV Tryz.prog 120 #[.int .i64 (p0.len : Int)] V fun v V1 => ∃ r1 : Bool, v = .bool r1 ∧ -- waveportref07.Length
    ((!r1) = true →
      R (.tuple #[(Sl.mk none 0 0).v, .int .i64 4]) V1) ∧
    ((!r1) = false →
      CallV Tryz.prog 121 #[p1.val, .int .i64 (p0.len : Int)] V1 fun v V2 => ∃ r2 : Bool, v = .bool r2 ∧ -- waveportref07.Allowed
    ((!r2) = true →
      R (.tuple #[(Sl.mk none 0 0).v, .int .i64 1]) V2) ∧
    ((!r2) = false →
      CallV Tryz.prog 125 #[p1.val, .int .i64 (p0.len : Int), .int .i64 p2] V2 fun v V3 => ∃ r3 : Sl, v = r3.v ∧ -- waveportref07.Near
    E0 (C_waveportref07_Touched_0.mk r3) (L_waveportref07_Touched_0.mk 0 0 0 ([] : List Value)) V3 ∧
    (∀ (x2 : L_waveportref07_Touched_0) (V4 : View), View.le V3 V4 → I0 (C_waveportref07_Touched_0.mk r3) x2 V4 →
      ((decide ((x2.t10 : Int) < (p0.len : Int))) = true →
        ((0 : Int) ≤ x2.t10 ∧ (x2.t10 : Int) < (r3.len : Nat) ∧ Option.isSome r3.a = true) ∧
      ∃ x3 : Bool, View.load V4 (Option.map (fun q => Addr.add q (Int.toNat x2.t10 * 1)) r3.a) = some (.bool x3) ∧
      (x3 = true →
      ((0 : Int) ≤ x2.t10 ∧ (x2.t10 : Int) < (p0.len : Nat) ∧ Option.isSome p0.a = true) ∧
      ∃ x4 : NumV, View.has V4 (Option.map (fun q => Addr.add q (Int.toNat x2.t10 * 5)) p0.a) (x4.val).cells.toList ∧ Option.isSome (Option.map (fun q => Addr.add q (Int.toNat x2.t10 * 5)) p0.a) = true ∧
      CallV Tryz.prog 123 #[.int .i64 0] V4 fun v V5 => ∃ r4 : NumV, v = r4.val ∧ -- waveportref01.Whole
      CallV Tryz.prog 126 #[x4.val, r4.val] V5 fun v V6 => ∃ r5 : Bool, v = .bool r5 ∧ -- waveportref01.Same
      ((!r5) = true →
        ∀ (b1 : Nat) (V7 : View), View.le V6 V7 → View.Fin V7 → V7 b1 = some #[.int .i64 x2.t10] →
        ∃ (l1 : List Value) (l2 : List Value), LstOk 1 x2.t9l x2.t9c x2.o25 l1 ∧ View.has V7 (some (Addr.mk b1 0 none)) l2 ∧ List.length l2 = 1 * 1 ∧ (∀ v ∈ l2, Value.oneCell' v = true) ∧ x2.t9l + 1 ≤ maxLen ∧ (x2.t9l + 1) * 8 ≤ 140737488355328 ∧
        ∀ (c1 : Nat) (l3 : List Value), LstOk 1 (x2.t9l + 1) c1 l3 (l1 ++ l2) →
        B0 (C_waveportref07_Touched_0.mk r3) (L_waveportref07_Touched_0.mk (x2.t9l + 1) c1 (IntKind.i64.wrap (x2.t10 + 1)) l3) V7 x2 V4) ∧
      ((!r5) = false →
        B0 (C_waveportref07_Touched_0.mk r3) (L_waveportref07_Touched_0.mk x2.t9l x2.t9c (IntKind.i64.wrap (x2.t10 + 1)) x2.o25) V6 x2 V4)) ∧
      (x3 = false →
      B0 (C_waveportref07_Touched_0.mk r3) (L_waveportref07_Touched_0.mk x2.t9l x2.t9c (IntKind.i64.wrap (x2.t10 + 1)) x2.o25) V4 x2 V4)) ∧
      ((decide ((x2.t10 : Int) < (p0.len : Int))) = false →
        ∀ (b2 : Nat) (V8 : View), View.le V4 V8 → (x2.o25 ≠ [] → V8 b2 = some (List.toArray x2.o25)) →
    R (.tuple #[(Sl.mk (some (Addr.mk b2 0 none)) x2.t9l x2.t9c).v, .int .i64 0]) V8))))

theorem waveportref07_Touched_v0 (p0 : Sl) (p1 : GateV) (p2 : Int) (V : View) (R : Value → View → Prop) (I0 : C_waveportref07_Touched_0 → L_waveportref07_Touched_0 → View → Prop) (J0 : C_waveportref07_Touched_0 → L_waveportref07_Touched_0 → View → Nat) {X : Prop} (e : waveportref07_Touched_sk p0 p1 p2 V R I0 I0 (fun c w V x U => I0 c w V ∧ J0 c w V < J0 c x U) = X) (h : X) :
  CallV Tryz.prog 57 #[p0.v, p1.val, .int .i64 p2] V R :=
  calls_of_vc (Shp := Shp) hmixed Tryz.func57 (c := Tryz.f57.body.getD .skip) (args := [p0.v, p1.val, .int .i64 p2]) (by kernel_rfl)
    (.seq (.reg [⟨4, 3, false⟩, ⟨6, 2, false⟩, ⟨7, 2, false⟩]) (.seq (.seq (.reg [⟨11, 2, false⟩, ⟨12, 0, false⟩, ⟨13, 10, false⟩, ⟨14, 20, false⟩]) (.cond (.seq (.reg [⟨6, 2, false⟩, ⟨7, 2, false⟩]) .leaf) .leaf)) (.seq (.seq (.reg [⟨4, 4, false⟩, ⟨16, 2, false⟩, ⟨17, 0, false⟩, ⟨18, 10, false⟩, ⟨19, 20, false⟩]) (.cond (.seq (.reg [⟨6, 2, false⟩, ⟨7, 2, false⟩]) .leaf) .leaf)) (.seq (.reg [⟨4, 4, false⟩, ⟨21, 2, false⟩, ⟨22, 0, false⟩, ⟨23, 2, false⟩, ⟨24, 10, false⟩, ⟨8, 2, false⟩]) (.seq (.reg [⟨25, 3, false⟩, ⟨9, 2, false⟩]) (.seq (.seq (.reg [⟨10, 2, false⟩]) (.block (.loop C_waveportref07_Touched_0 L_waveportref07_Touched_0 (fun σ => C_waveportref07_Touched_0.mk (Sl.mk (gSlA (gTm σ 8)) (gSlL (gTm σ 8)) (gSlC (gTm σ 8)))) (fun c x => { tm := spT 50 0 [(0, .val (p0.v)), (8, .val (c.t8.v)), (9, .les 25 x.t9l x.t9c), (10, .val (.int .i64 x.t10))], own := spO 50 0 [(25, ⟨3, .list x.o25⟩)] }) I0 J0 (.seq (.seq (.reg [⟨26, 2, false⟩, ⟨27, 2, false⟩, ⟨28, 0, false⟩, ⟨29, 0, false⟩]) (.cond .leaf .leaf)) (.seq (.block (.seq (.draw [(0, ⟨32, 2, false⟩), (1, ⟨33, 2, false⟩), (2, ⟨34, 7, false⟩), (3, ⟨35, 5, false⟩), (4, ⟨36, 2, true⟩), (5, ⟨37, 2, false⟩), (6, ⟨38, 2, false⟩), (7, ⟨39, 7, false⟩), (8, ⟨40, 5, false⟩), (9, ⟨41, 10, false⟩), (10, ⟨42, 10, false⟩), (11, ⟨43, 20, false⟩), (12, ⟨44, 20, false⟩)] [0, 0, 3, 7, 15, 31, 31, 127, 255, 31, 1023, 2047, 4095]) (.cond (.reg [⟨45, 2, false⟩, ⟨46, 2, false⟩, ⟨47, 11, false⟩, ⟨25, 13, false⟩, ⟨9, 2, false⟩]) .leaf))) (.reg [⟨30, 2, false⟩, ⟨31, 0, false⟩, ⟨10, 2, false⟩])))))) (.seq (.reg [⟨49, 2, false⟩, ⟨6, 2, false⟩, ⟨7, 2, false⟩]) (.pub 25 .leaf))))))))
    (Eq.mpr (by kernel_rfl) (show waveportref07_Touched_sk p0 p1 p2 V R I0 (fun c w V => ∃ x, waveportref07_Touched_f0 p0 c w x ∧ I0 c x V) (fun c w V y U => ∃ x, waveportref07_Touched_f0 p0 c w x ∧ I0 c x V ∧ J0 c x V < J0 c y U) from by
    have h := Eq.mpr e h; unfold waveportref07_Touched_sk at h ⊢; have Ee0 := fun c w V (h : I0 c w V) => (⟨w, ⟨⟨rfl, rfl, rfl, rfl, trivial⟩, ⟨rfl, trivial⟩⟩, h⟩ : ∃ x, waveportref07_Touched_f0 p0 c w x ∧ I0 c x V); have Bb0 := fun c w V y U (h : I0 c w V ∧ J0 c w V < J0 c y U) => (⟨w, ⟨⟨rfl, rfl, rfl, rfl, trivial⟩, ⟨rfl, trivial⟩⟩, h⟩ : ∃ x, waveportref07_Touched_f0 p0 c w x ∧ I0 c x V ∧ J0 c x V < J0 c y U); exact (CallV.mono h (fun _ _ _ ⟨r1, h35, h34⟩ => ⟨r1, h35, ⟨fun h33 => (h34.1 h33), fun h33 => (CallV.mono (h34.2 h33) (fun _ _ _ ⟨r2, h32, h31⟩ => ⟨r2, h32, ⟨fun h30 => (h31.1 h30), fun h30 => (CallV.mono (h31.2 h30) (fun _ _ _ ⟨r3, h29, h28⟩ => ⟨r3, h29, ⟨(Ee0 _ _ _ h28.1), fun x2 V4 h26 h27 => ⟨fun h25 => ⟨((h28.2 x2 V4 h26 h27).1 h25).1, (match ((h28.2 x2 V4 h26 h27).1 h25).2 with | ⟨x3, h22, h21⟩ => ⟨x3, h22, ⟨fun h20 => ⟨(h21.1 h20).1, (match (h21.1 h20).2 with | ⟨x4, h18, h19, h17⟩ => ⟨x4, h18, h19, (CallV.mono h17 (fun _ _ _ ⟨r4, h16, h15⟩ => ⟨r4, h16, (CallV.mono h15 (fun _ _ _ ⟨r5, h14, h13⟩ => ⟨r5, h14, ⟨fun h12 => (fun b1 V7 h9 h10 h11 => (match ((h13.1 h12) b1 V7 h9 h10 h11) with | ⟨l1, l2, h3, h4, h5, h6, h7, h8, h2⟩ => ⟨l1, l2, h3, h4, h5, h6, h7, h8, (fun c1 l3 h1 => (Bb0 _ _ _ _ _ (h2 c1 l3 h1)))⟩)), fun h12 => (Bb0 _ _ _ _ _ (h13.2 h12))⟩⟩))⟩))⟩)⟩, fun h20 => (Bb0 _ _ _ _ _ (h21.2 h20))⟩⟩)⟩, fun h25 => (fun b2 V8 h23 h24 => (((h28.2 x2 V4 h26 h27).2 h25) b2 V8 h23 h24))⟩⟩⟩))⟩⟩))⟩⟩))))

/-- waveport/waveportref07.Touched -/
theorem waveportref07_Touched_vc : type_of% (fun p0 p1 p2 V R I0 J0 => waveportref07_Touched_v0 p0 p1 p2 V R I0 J0 (waveportref07_Touched_sk.eq_1 ..)) := fun p0 p1 p2 V R I0 J0 => waveportref07_Touched_v0 p0 p1 p2 V R I0 J0 (waveportref07_Touched_sk.eq_1 ..)

structure L_transform_Touched_num_Num__1_0 where
  t6 : Int
def transform_Touched_num_Num__1_f0 (p0 : Int) (p1 : Option Addr) (p2 : Option Addr) (p3 : Option Addr) (_c : Unit) (w x : L_transform_Touched_num_Num__1_0) : Prop := (Q1 (.val (.int .i64 p0)) ∧ Q1 (.val (.pointer p1)) ∧ Q1 (.val (.pointer p2)) ∧ Q1 (.val (.pointer p3)) ∧ E2 (.val (.int .i64 w.t6)) (.val (.int .i64 x.t6)) ∧ True) ∧ (True)
def transform_Touched_num_Num__1_sk (p0 : Int) (p1 : Option Addr) (p2 : Option Addr) (p3 : Option Addr) (V : View) (R : Value → View → Prop) (I0 : Unit → L_transform_Touched_num_Num__1_0 → View → Prop) (E0 : Unit → L_transform_Touched_num_Num__1_0 → View → Prop) (B0 : Unit → L_transform_Touched_num_Num__1_0 → View → L_transform_Touched_num_Num__1_0 → View → Prop) : Prop :=
    E0 () (L_transform_Touched_num_Num__1_0.mk 1) V ∧
    (∀ (x2 : L_transform_Touched_num_Num__1_0) (V1 : View), View.le V V1 → I0 () x2 V1 →
      ∃ x3 : Int, View.load V1 p1 = some (.int .i64 x3) ∧
      ∃ x4 : Int, View.load V1 p2 = some (.int .i64 x4) ∧
      ((decide ((x2.t6 : Int) ≤ (if (x4 : Int) < x3 then x4 else x3))) = true →
        ∃ x5 : Sl, View.load V1 p3 = some (x5.v) ∧
      ∃ x6 : Int, View.load V1 p2 = some (.int .i64 x6) ∧
      (x6 : Int) ≠ 0 ∧
      ((0 : Int) ≤ (Int.tmod (IntKind.i64.wrap (p0 + x2.t6)) x6) ∧ ((Int.tmod (IntKind.i64.wrap (p0 + x2.t6)) x6) : Int) < (x5.len : Nat) ∧ Option.isSome x5.a = true) ∧
      ∃ x7 : Bool, View.load V1 (Option.map (fun q => Addr.add q (Int.toNat (Int.tmod (IntKind.i64.wrap (p0 + x2.t6)) x6) * 1)) x5.a) = some (.bool x7) ∧
      (x7 = true →
      R (.bool true) V1) ∧
      (x7 = false →
      ∃ x8 : Sl, View.load V1 p3 = some (x8.v) ∧
      ∃ x9 : Int, View.load V1 p2 = some (.int .i64 x9) ∧
      ∃ x10 : Int, View.load V1 p2 = some (.int .i64 x10) ∧
      (x10 : Int) ≠ 0 ∧
      ((0 : Int) ≤ (Int.tmod (IntKind.i64.wrap ((IntKind.i64.wrap (p0 + (IntKind.i64.wrap (x9 * x2.t6)))) - x2.t6)) x10) ∧ ((Int.tmod (IntKind.i64.wrap ((IntKind.i64.wrap (p0 + (IntKind.i64.wrap (x9 * x2.t6)))) - x2.t6)) x10) : Int) < (x8.len : Nat) ∧ Option.isSome x8.a = true) ∧
      ∃ x11 : Bool, View.load V1 (Option.map (fun q => Addr.add q (Int.toNat (Int.tmod (IntKind.i64.wrap ((IntKind.i64.wrap (p0 + (IntKind.i64.wrap (x9 * x2.t6)))) - x2.t6)) x10) * 1)) x8.a) = some (.bool x11) ∧
      (x11 = true →
        R (.bool true) V1) ∧
      (x11 = false →
        B0 () (L_transform_Touched_num_Num__1_0.mk (IntKind.i64.wrap (x2.t6 + 1))) V1 x2 V1))) ∧
      ((decide ((x2.t6 : Int) ≤ (if (x4 : Int) < x3 then x4 else x3))) = false →
        R (.bool false) V1))

theorem transform_Touched_num_Num__1_v0 (p0 : Int) (p1 : Option Addr) (p2 : Option Addr) (p3 : Option Addr) (V : View) (R : Value → View → Prop) (I0 : Unit → L_transform_Touched_num_Num__1_0 → View → Prop) (J0 : Unit → L_transform_Touched_num_Num__1_0 → View → Nat) {X : Prop} (e : transform_Touched_num_Num__1_sk p0 p1 p2 p3 V R I0 I0 (fun c w V x U => I0 c w V ∧ J0 c w V < J0 c x U) = X) (h : X) :
  CallV Tryz.prog 124 #[.int .i64 p0, .pointer p1, .pointer p2, .pointer p3] V R :=
  calls_of_vc (Shp := Shp) hmixed Tryz.func124 (c := Tryz.f124.body.getD .skip) (args := [.int .i64 p0, .pointer p1, .pointer p2, .pointer p3]) (by kernel_rfl)
    (.seq (.reg [⟨5, 9, false⟩]) (.seq (.seq (.reg [⟨6, 2, false⟩]) (.block (.loop Unit L_transform_Touched_num_Num__1_0 (fun _ => ()) (fun c x => { tm := spT 36 0 [(0, .val (.int .i64 p0)), (1, .val (.pointer p1)), (2, .val (.pointer p2)), (3, .val (.pointer p3)), (6, .val (.int .i64 x.t6))], own := spO 36 0 [] }) I0 J0 (.seq (.seq (.reg [⟨7, 2, false⟩, ⟨8, 5, false⟩, ⟨9, 5, false⟩, ⟨10, 0, false⟩, ⟨11, 0, false⟩]) (.cond .leaf .leaf)) (.seq (.block (.seq (.draw [(0, ⟨14, 5, false⟩), (1, ⟨15, 2, false⟩), (2, ⟨16, 2, false⟩), (3, ⟨17, 0, false⟩), (4, ⟨18, 5, false⟩), (5, ⟨19, 12, false⟩), (6, ⟨20, 7, false⟩), (7, ⟨21, 5, false⟩), (8, ⟨22, 2, true⟩), (9, ⟨23, 5, false⟩), (10, ⟨24, 2, false⟩), (11, ⟨25, 5, false⟩), (12, ⟨26, 2, false⟩), (13, ⟨27, 0, false⟩), (14, ⟨28, 0, false⟩), (15, ⟨29, 2, false⟩), (16, ⟨30, 0, false⟩), (17, ⟨31, 5, false⟩), (18, ⟨32, 12, false⟩), (19, ⟨33, 7, false⟩), (20, ⟨34, 5, false⟩), (21, ⟨35, 20, false⟩)] [0, 0, 0, 6, 0, 30, 63, 127, 255, 511, 511, 511, 511, 6655, 15871, 511, 65023, 511, 261631, 524287, 1048575, 2097151]) (.cond (.seq (.reg [⟨5, 9, false⟩]) .leaf) .leaf))) (.reg [⟨12, 2, false⟩, ⟨13, 0, false⟩, ⟨6, 2, false⟩])))))) (.seq (.reg [⟨5, 9, false⟩]) .leaf)))
    (Eq.mpr (by kernel_rfl) (show transform_Touched_num_Num__1_sk p0 p1 p2 p3 V R I0 (fun c w V => ∃ x, transform_Touched_num_Num__1_f0 p0 p1 p2 p3 c w x ∧ I0 c x V) (fun c w V y U => ∃ x, transform_Touched_num_Num__1_f0 p0 p1 p2 p3 c w x ∧ I0 c x V ∧ J0 c x V < J0 c y U) from by
    have h := Eq.mpr e h; unfold transform_Touched_num_Num__1_sk at h ⊢; have Ee0 := fun c w V (h : I0 c w V) => (⟨w, ⟨⟨rfl, rfl, rfl, rfl, rfl, trivial⟩, trivial⟩, h⟩ : ∃ x, transform_Touched_num_Num__1_f0 p0 p1 p2 p3 c w x ∧ I0 c x V); have Bb0 := fun c w V y U (h : I0 c w V ∧ J0 c w V < J0 c y U) => (⟨w, ⟨⟨rfl, rfl, rfl, rfl, rfl, trivial⟩, trivial⟩, h⟩ : ∃ x, transform_Touched_num_Num__1_f0 p0 p1 p2 p3 c w x ∧ I0 c x V ∧ J0 c x V < J0 c y U); exact ⟨(Ee0 _ _ _ h.1), fun x2 V1 h22 h23 => (match (h.2 x2 V1 h22 h23) with | ⟨x3, h21, h20⟩ => ⟨x3, h21, (match h20 with | ⟨x4, h19, h18⟩ => ⟨x4, h19, ⟨fun h17 => (match (h18.1 h17) with | ⟨x5, h16, h15⟩ => ⟨x5, h16, (match h15 with | ⟨x6, h14, h13⟩ => ⟨x6, h14, ⟨h13.1, ⟨h13.2.1, (match h13.2.2 with | ⟨x7, h12, h11⟩ => ⟨x7, h12, ⟨fun h10 => (h11.1 h10), fun h10 => (match (h11.2 h10) with | ⟨x8, h9, h8⟩ => ⟨x8, h9, (match h8 with | ⟨x9, h7, h6⟩ => ⟨x9, h7, (match h6 with | ⟨x10, h5, h4⟩ => ⟨x10, h5, ⟨h4.1, ⟨h4.2.1, (match h4.2.2 with | ⟨x11, h3, h2⟩ => ⟨x11, h3, ⟨fun h1 => (h2.1 h1), fun h1 => (Bb0 _ _ _ _ _ (h2.2 h1))⟩⟩)⟩⟩⟩)⟩)⟩)⟩⟩)⟩⟩⟩)⟩), fun h17 => (h18.2 h17)⟩⟩)⟩)⟩))

/-- waveport/transform.Touched[waveport/num.Num]$1 -/
theorem transform_Touched_num_Num__1_vc : type_of% (fun p0 p1 p2 p3 V R I0 J0 => transform_Touched_num_Num__1_v0 p0 p1 p2 p3 V R I0 J0 (transform_Touched_num_Num__1_sk.eq_1 ..)) := fun p0 p1 p2 p3 V R I0 J0 => transform_Touched_num_Num__1_v0 p0 p1 p2 p3 V R I0 J0 (transform_Touched_num_Num__1_sk.eq_1 ..)

structure L_transform_Touched_num_Num__0 where
  t12l : Nat
  t12c : Nat
  t28 : Int
  o12 : List Value
structure C_transform_Touched_num_Num__0 where
  t10 : Option Addr
  t11 : Value
def transform_Touched_num_Num__f0 (p0 : Sl) (c : C_transform_Touched_num_Num__0) (w x : L_transform_Touched_num_Num__0) : Prop := (Q1 (.val (p0.v)) ∧ Q1 (.val (.pointer c.t10)) ∧ Q1 (.val (c.t11)) ∧ E2 (.lst 12 w.t12l w.t12c) (.lst 12 x.t12l x.t12c) ∧ Q1 (.val (.int .i64 (p0.len : Int))) ∧ E2 (.val (.int .i64 w.t28)) (.val (.int .i64 x.t28)) ∧ True) ∧ (O2 ⟨3, .list w.o12⟩ ⟨3, .list x.o12⟩ ∧ True)
def transform_Touched_num_Num__sk (p0 : Sl) (p1 : GateV) (p2 : Int) (V : View) (R : Value → View → Prop) (I0 : C_transform_Touched_num_Num__0 → L_transform_Touched_num_Num__0 → View → Prop) (E0 : C_transform_Touched_num_Num__0 → L_transform_Touched_num_Num__0 → View → Prop) (B0 : C_transform_Touched_num_Num__0 → L_transform_Touched_num_Num__0 → View → L_transform_Touched_num_Num__0 → View → Prop) : Prop :=
    CallV Tryz.prog 117 #[p1.val, .int .i64 (p0.len : Int)] V fun v V1 => ∃ r1 : Int, v = .int .i64 r1 ∧ -- transform.valid
    (((r1 : Int) != 0) = true →
      R (.tuple #[(Sl.mk none 0 0).v, .int .i64 r1]) V1) ∧
    (((r1 : Int) != 0) = false →
      CallV Tryz.prog 118 #[p1.val, .int .i64 (p0.len : Int)] V1 fun v V2 => ∃ r2 : Sl, v = r2.v ∧ -- transform.within
    ∀ (b1 : Nat) (V3 : View), View.le V2 V3 → V3 b1 = some (List.toArray ([.int .i64 p2])) →
    ∀ (b2 : Nat) (V4 : View), View.le V3 V4 → V4 b2 = some (List.toArray ([.int .i64 (p0.len : Int)])) →
    ∀ (b3 : Nat) (V5 : View), View.le V4 V5 → V5 b3 = some (List.toArray ([r2.v])) →
    E0 (C_transform_Touched_num_Num__0.mk (some (Addr.mk b3 0 none)) (.func (.func 124) #[] #[.pointer (some (Addr.mk b1 0 none)), .pointer (some (Addr.mk b2 0 none)), .pointer (some (Addr.mk b3 0 none))])) (L_transform_Touched_num_Num__0.mk 0 0 0 ([] : List Value)) V5 ∧
    (∀ (x2 : L_transform_Touched_num_Num__0) (V6 : View), View.le V5 V6 → I0 (C_transform_Touched_num_Num__0.mk (some (Addr.mk b3 0 none)) (.func (.func 124) #[] #[.pointer (some (Addr.mk b1 0 none)), .pointer (some (Addr.mk b2 0 none)), .pointer (some (Addr.mk b3 0 none))])) x2 V6 →
      ((decide ((x2.t28 : Int) < (p0.len : Int))) = true →
        ∃ x3 : Sl, View.load V6 (some (Addr.mk b3 0 none)) = some (x3.v) ∧
      ((0 : Int) ≤ x2.t28 ∧ (x2.t28 : Int) < (x3.len : Nat) ∧ Option.isSome x3.a = true) ∧
      ∃ x4 : Bool, View.load V6 (Option.map (fun q => Addr.add q (Int.toNat x2.t28 * 1)) x3.a) = some (.bool x4) ∧
      ((!x4) = true →
      CallV Tryz.prog 124 #[.int .i64 x2.t28, .pointer (some (Addr.mk b1 0 none)), .pointer (some (Addr.mk b2 0 none)), .pointer (some (Addr.mk b3 0 none))] V6 fun v V7 => ∃ r3 : Bool, v = .bool r3 ∧ -- transform.Touched[num.Num]$1
      (r3 = true →
      ((0 : Int) ≤ x2.t28 ∧ (x2.t28 : Int) < (p0.len : Nat) ∧ Option.isSome p0.a = true) ∧
      ∃ x5 : NumV, View.has V7 (Option.map (fun q => Addr.add q (Int.toNat x2.t28 * 5)) p0.a) (x5.val).cells.toList ∧ Option.isSome (Option.map (fun q => Addr.add q (Int.toNat x2.t28 * 5)) p0.a) = true ∧
      CallV Tryz.prog 119 #[.int .i64 0, .int .i64 1] V7 fun v V8 => ∃ r4 : NumV, v = r4.val ∧ -- transform.of[num.Num]
      CallV Tryz.prog 36 #[x5.val, r4.val] V8 fun v V9 => ∃ r5 : Bool, v = .bool r5 ∧ -- (num.Num).Same
      ((!r5) = true →
        ∀ (b4 : Nat) (V10 : View), View.le V9 V10 → View.Fin V10 → V10 b4 = some #[.int .i64 x2.t28] →
        ∃ (l1 : List Value) (l2 : List Value), LstOk 1 x2.t12l x2.t12c x2.o12 l1 ∧ View.has V10 (some (Addr.mk b4 0 none)) l2 ∧ List.length l2 = 1 * 1 ∧ (∀ v ∈ l2, Value.oneCell' v = true) ∧ x2.t12l + 1 ≤ maxLen ∧ (x2.t12l + 1) * 8 ≤ 140737488355328 ∧
        ∀ (c1 : Nat) (l3 : List Value), LstOk 1 (x2.t12l + 1) c1 l3 (l1 ++ l2) →
        B0 (C_transform_Touched_num_Num__0.mk (some (Addr.mk b3 0 none)) (.func (.func 124) #[] #[.pointer (some (Addr.mk b1 0 none)), .pointer (some (Addr.mk b2 0 none)), .pointer (some (Addr.mk b3 0 none))])) (L_transform_Touched_num_Num__0.mk (x2.t12l + 1) c1 (IntKind.i64.wrap (x2.t28 + 1)) l3) V10 x2 V6) ∧
      ((!r5) = false →
        B0 (C_transform_Touched_num_Num__0.mk (some (Addr.mk b3 0 none)) (.func (.func 124) #[] #[.pointer (some (Addr.mk b1 0 none)), .pointer (some (Addr.mk b2 0 none)), .pointer (some (Addr.mk b3 0 none))])) (L_transform_Touched_num_Num__0.mk x2.t12l x2.t12c (IntKind.i64.wrap (x2.t28 + 1)) x2.o12) V9 x2 V6)) ∧
      (r3 = false →
      B0 (C_transform_Touched_num_Num__0.mk (some (Addr.mk b3 0 none)) (.func (.func 124) #[] #[.pointer (some (Addr.mk b1 0 none)), .pointer (some (Addr.mk b2 0 none)), .pointer (some (Addr.mk b3 0 none))])) (L_transform_Touched_num_Num__0.mk x2.t12l x2.t12c (IntKind.i64.wrap (x2.t28 + 1)) x2.o12) V7 x2 V6)) ∧
      ((!x4) = false →
      B0 (C_transform_Touched_num_Num__0.mk (some (Addr.mk b3 0 none)) (.func (.func 124) #[] #[.pointer (some (Addr.mk b1 0 none)), .pointer (some (Addr.mk b2 0 none)), .pointer (some (Addr.mk b3 0 none))])) (L_transform_Touched_num_Num__0.mk x2.t12l x2.t12c (IntKind.i64.wrap (x2.t28 + 1)) x2.o12) V6 x2 V6)) ∧
      ((decide ((x2.t28 : Int) < (p0.len : Int))) = false →
        ∀ (b5 : Nat) (V11 : View), View.le V6 V11 → (x2.o12 ≠ [] → V11 b5 = some (List.toArray x2.o12)) →
    R (.tuple #[(Sl.mk (lstA b5 x2.t12c) x2.t12l x2.t12c).v, .int .i64 0]) V11)))

theorem transform_Touched_num_Num__v0 (p0 : Sl) (p1 : GateV) (p2 : Int) (V : View) (R : Value → View → Prop) (I0 : C_transform_Touched_num_Num__0 → L_transform_Touched_num_Num__0 → View → Prop) (J0 : C_transform_Touched_num_Num__0 → L_transform_Touched_num_Num__0 → View → Nat) {X : Prop} (e : transform_Touched_num_Num__sk p0 p1 p2 V R I0 I0 (fun c w V x U => I0 c w V ∧ J0 c w V < J0 c x U) = X) (h : X) :
  CallV Tryz.prog 56 #[p0.v, p1.val, .int .i64 p2] V R :=
  calls_of_vc (Shp := Shp) hmixed Tryz.func56 (c := Tryz.f56.body.getD .skip) (args := [p0.v, p1.val, .int .i64 p2]) (by kernel_rfl)
    (.seq (.reg [⟨4, 3, false⟩, ⟨5, 3, false⟩, ⟨6, 2, false⟩, ⟨7, 2, false⟩]) (.seq (.reg [⟨14, 2, false⟩, ⟨15, 0, false⟩, ⟨8, 3, false⟩, ⟨8, 6, false⟩]) (.seq (.seq (.reg [⟨4, 4, false⟩, ⟨8, 4, false⟩, ⟨18, 10, false⟩, ⟨9, 2, false⟩]) (.seq (.reg [⟨19, 2, false⟩, ⟨20, 0, false⟩]) (.cond (.seq (.reg [⟨21, 2, false⟩, ⟨6, 2, false⟩, ⟨7, 2, false⟩]) .leaf) .leaf))) (.seq (.reg [⟨4, 4, false⟩, ⟨8, 4, false⟩, ⟨24, 10, false⟩, ⟨10, 3, false⟩, ⟨10, 6, false⟩]) (.seq (.pub 5 (.pub 8 (.pub 10 (.reg [⟨25, 0, false⟩, ⟨11, 2, false⟩])))) (.seq (.reg [⟨12, 2, false⟩]) (.seq (.seq (.adopt 12 12 3 (.reg [⟨26, 2, false⟩, ⟨27, 0, false⟩, ⟨28, 2, false⟩])) (.block (.loop C_transform_Touched_num_Num__0 L_transform_Touched_num_Num__0 (fun σ => C_transform_Touched_num_Num__0.mk (gPtr (gTm σ 10)) (gVal (gTm σ 11))) (fun c x => { tm := spT 57 0 [(0, .val (p0.v)), (10, .val (.pointer c.t10)), (11, .val (c.t11)), (12, .lst 12 x.t12l x.t12c), (27, .val (.int .i64 (p0.len : Int))), (28, .val (.int .i64 x.t28))], own := spO 57 0 [(12, ⟨3, .list x.o12⟩)] }) I0 J0 (.seq (.reg [⟨29, 0, false⟩]) (.seq (.cond .leaf .leaf) (.seq (.block (.seq (.reg [⟨30, 2, false⟩, ⟨13, 2, false⟩]) (.seq (.draw [(0, ⟨31, 5, false⟩), (1, ⟨32, 2, false⟩), (2, ⟨33, 7, false⟩), (3, ⟨34, 5, false⟩), (4, ⟨35, 20, false⟩), (5, ⟨36, 2, true⟩), (6, ⟨37, 2, false⟩), (7, ⟨38, 2, false⟩), (8, ⟨39, 10, false⟩), (9, ⟨40, 20, false⟩), (10, ⟨41, 2, true⟩), (11, ⟨42, 2, false⟩), (12, ⟨43, 2, false⟩), (13, ⟨44, 7, false⟩), (14, ⟨45, 5, false⟩), (15, ⟨46, 0, false⟩), (16, ⟨47, 10, false⟩), (17, ⟨48, 10, false⟩), (18, ⟨49, 20, false⟩), (19, ⟨50, 20, false⟩)] [0, 0, 3, 7, 15, 31, 63, 63, 255, 511, 1023, 2047, 2047, 8191, 16383, 32767, 2047, 131071, 262143, 524287]) (.cond (.reg [⟨51, 2, false⟩, ⟨52, 2, false⟩, ⟨53, 11, false⟩, ⟨12, 13, false⟩, ⟨12, 2, false⟩]) .leaf)))) (.reg [⟨55, 0, false⟩, ⟨28, 2, false⟩]))))))) (.seq (.reg [⟨56, 2, false⟩, ⟨6, 2, false⟩, ⟨7, 2, false⟩]) (.pub 12 .leaf)))))))))
    (Eq.mpr (by kernel_rfl) (show transform_Touched_num_Num__sk p0 p1 p2 V R I0 (fun c w V => ∃ x, transform_Touched_num_Num__f0 p0 c w x ∧ I0 c x V) (fun c w V y U => ∃ x, transform_Touched_num_Num__f0 p0 c w x ∧ I0 c x V ∧ J0 c x V < J0 c y U) from by
    have h := Eq.mpr e h; unfold transform_Touched_num_Num__sk at h ⊢; have Ee0 := fun c w V (h : I0 c w V) => (⟨w, ⟨⟨rfl, rfl, rfl, rfl, rfl, rfl, trivial⟩, ⟨rfl, trivial⟩⟩, h⟩ : ∃ x, transform_Touched_num_Num__f0 p0 c w x ∧ I0 c x V); have Bb0 := fun c w V y U (h : I0 c w V ∧ J0 c w V < J0 c y U) => (⟨w, ⟨⟨rfl, rfl, rfl, rfl, rfl, rfl, trivial⟩, ⟨rfl, trivial⟩⟩, h⟩ : ∃ x, transform_Touched_num_Num__f0 p0 c w x ∧ I0 c x V ∧ J0 c x V < J0 c y U); exact (CallV.mono h (fun _ _ _ ⟨r1, h43, h42⟩ => ⟨r1, h43, ⟨fun h41 => (h42.1 h41), fun h41 => (CallV.mono (h42.2 h41) (fun _ _ _ ⟨r2, h40, h39⟩ => ⟨r2, h40, (fun b1 V3 h37 h38 => (fun b2 V4 h35 h36 => (fun b3 V5 h33 h34 => ⟨(Ee0 _ _ _ (((h39 b1 V3 h37 h38) b2 V4 h35 h36) b3 V5 h33 h34).1), fun x2 V6 h31 h32 => ⟨fun h30 => (match (((((h39 b1 V3 h37 h38) b2 V4 h35 h36) b3 V5 h33 h34).2 x2 V6 h31 h32).1 h30) with | ⟨x3, h27, h26⟩ => ⟨x3, h27, ⟨h26.1, (match h26.2 with | ⟨x4, h25, h24⟩ => ⟨x4, h25, ⟨fun h23 => (CallV.mono (h24.1 h23) (fun _ _ _ ⟨r3, h22, h21⟩ => ⟨r3, h22, ⟨fun h20 => ⟨(h21.1 h20).1, (match (h21.1 h20).2 with | ⟨x5, h18, h19, h17⟩ => ⟨x5, h18, h19, (CallV.mono h17 (fun _ _ _ ⟨r4, h16, h15⟩ => ⟨r4, h16, (CallV.mono h15 (fun _ _ _ ⟨r5, h14, h13⟩ => ⟨r5, h14, ⟨fun h12 => (fun b4 V10 h9 h10 h11 => (match ((h13.1 h12) b4 V10 h9 h10 h11) with | ⟨l1, l2, h3, h4, h5, h6, h7, h8, h2⟩ => ⟨l1, l2, h3, h4, h5, h6, h7, h8, (fun c1 l3 h1 => (Bb0 _ _ _ _ _ (h2 c1 l3 h1)))⟩)), fun h12 => (Bb0 _ _ _ _ _ (h13.2 h12))⟩⟩))⟩))⟩)⟩, fun h20 => (Bb0 _ _ _ _ _ (h21.2 h20))⟩⟩)), fun h23 => (Bb0 _ _ _ _ _ (h24.2 h23))⟩⟩)⟩⟩), fun h30 => (fun b5 V11 h28 h29 => ((((((h39 b1 V3 h37 h38) b2 V4 h35 h36) b3 V5 h33 h34).2 x2 V6 h31 h32).2 h30) b5 V11 h28 h29))⟩⟩)))⟩))⟩⟩))))

/-- waveport/transform.Touched[waveport/num.Num] -/
theorem transform_Touched_num_Num__vc : type_of% (fun p0 p1 p2 V R I0 J0 => transform_Touched_num_Num__v0 p0 p1 p2 V R I0 J0 (transform_Touched_num_Num__sk.eq_1 ..)) := fun p0 p1 p2 V R I0 J0 => transform_Touched_num_Num__v0 p0 p1 p2 V R I0 J0 (transform_Touched_num_Num__sk.eq_1 ..)

structure L_waveportlaw07_TransformGates_0 where
  u : Unit
structure L_waveportlaw07_TransformGates_1 where
  u : Unit
structure C_waveportlaw07_TransformGates_1 where
  t0 : Sl
  t1 : Sl
structure L_waveportlaw07_TransformGates_2 where
  u : Unit
structure C_waveportlaw07_TransformGates_2 where
  t19 : Sl
  t21 : Sl
structure L_waveportlaw07_TransformGates_3 where
  t129 : Int
structure C_waveportlaw07_TransformGates_3 where
  t19 : Sl
  t21 : Sl
  t128 : Int
def waveportlaw07_TransformGates_f0 (p0 : Sl) (p1 : Sl) (p2 : GateV) (p3 : Int) (p4 : Int) (_c : Unit) (_w _x : L_waveportlaw07_TransformGates_0) : Prop := (Q1 (.val (p0.v)) ∧ Q1 (.val (p1.v)) ∧ Q1 (.val (.int .i64 p3)) ∧ Q1 (.val (.int .i64 p4)) ∧ Q1 (.own 7 0) ∧ True) ∧ (O2 ⟨89, .fixed [.val (.int .i64 p2.from_), .val (.int .i64 p2.count)]⟩ ⟨89, .fixed [.val (.int .i64 p2.from_), .val (.int .i64 p2.count)]⟩ ∧ True)
def waveportlaw07_TransformGates_f1 (p2 : GateV) (p3 : Int) (c : C_waveportlaw07_TransformGates_1) (_w _x : L_waveportlaw07_TransformGates_1) : Prop := (Q1 (.val (c.t0.v)) ∧ Q1 (.val (c.t1.v)) ∧ Q1 (.val (.int .i64 p3)) ∧ Q1 (.own 7 0) ∧ True) ∧ (O2 ⟨89, .fixed [.val (.int .i64 p2.from_), .val (.int .i64 p2.count)]⟩ ⟨89, .fixed [.val (.int .i64 p2.from_), .val (.int .i64 p2.count)]⟩ ∧ True)
def waveportlaw07_TransformGates_f2  (c : C_waveportlaw07_TransformGates_2) (_w _x : L_waveportlaw07_TransformGates_2) : Prop := (Q1 (.val (c.t19.v)) ∧ Q1 (.val (c.t21.v)) ∧ True) ∧ (True)
def waveportlaw07_TransformGates_f3  (c : C_waveportlaw07_TransformGates_3) (w x : L_waveportlaw07_TransformGates_3) : Prop := (Q1 (.val (c.t19.v)) ∧ Q1 (.val (c.t21.v)) ∧ Q1 (.val (.int .i64 c.t128)) ∧ E2 (.val (.int .i64 w.t129)) (.val (.int .i64 x.t129)) ∧ True) ∧ (True)
def waveportlaw07_TransformGates_sk (p0 : Sl) (p1 : Sl) (p2 : GateV) (p3 : Int) (p4 : Int) (V : View) (R : Value → View → Prop) (I0 : Unit → L_waveportlaw07_TransformGates_0 → View → Prop) (I1 : C_waveportlaw07_TransformGates_1 → L_waveportlaw07_TransformGates_1 → View → Prop) (I2 : C_waveportlaw07_TransformGates_2 → L_waveportlaw07_TransformGates_2 → View → Prop) (I3 : C_waveportlaw07_TransformGates_3 → L_waveportlaw07_TransformGates_3 → View → Prop) (E0 : Unit → L_waveportlaw07_TransformGates_0 → View → Prop) (E1 : C_waveportlaw07_TransformGates_1 → L_waveportlaw07_TransformGates_1 → View → Prop) (E2 : C_waveportlaw07_TransformGates_2 → L_waveportlaw07_TransformGates_2 → View → Prop) (E3 : C_waveportlaw07_TransformGates_3 → L_waveportlaw07_TransformGates_3 → View → Prop) (B3 : C_waveportlaw07_TransformGates_3 → L_waveportlaw07_TransformGates_3 → View → L_waveportlaw07_TransformGates_3 → View → Prop) : Prop :=
    (((decide (((p0.len : Int) : Int) > 16)) = true →
      CallV Tryz.prog 37 #[] V fun v V2 => ∃ r1 : Bool, v = .bool r1 ∧ -- waveportlaw07.awake
      R (.bool r1) V2) ∧
      ((decide (((p0.len : Int) : Int) > 16)) = false →
      ((decide (((p1.len : Int) : Int) > 16)) = true →
        CallV Tryz.prog 37 #[] V fun v V3 => ∃ r2 : Bool, v = .bool r2 ∧ -- waveportlaw07.awake
        R (.bool r2) V3) ∧
      ((decide (((p1.len : Int) : Int) > 16)) = false →
        E0 () (L_waveportlaw07_TransformGates_0.mk ()) V))) ∧
    (∀ (x1 : L_waveportlaw07_TransformGates_0) (V1 : View), View.le V V1 → I0 () x1 V1 →
      CallV Tryz.prog 38 #[p0.v] V1 fun v V4 => ∃ r3 : Sl, v = r3.v ∧ -- waveportlaw07.plain
      CallV Tryz.prog 38 #[p1.v] V4 fun v V5 => ∃ r4 : Sl, v = r4.v ∧ -- waveportlaw07.plain
      CallV Tryz.prog 39 #[r3.v] V5 fun v V6 => ∃ r5 : Sl, v = r5.v ∧ -- waveportlaw01.List
      CallV Tryz.prog 50 #[r5.v, p2.val] V6 fun v V7 => ∃ (r6 : Sl) (r7 : Int), v = .tuple #[r6.v, .int .i64 r7] ∧ -- transform.Cut[num.Num]
      CallV Tryz.prog 40 #[r3.v] V7 fun v V8 => ∃ r8 : Sl, v = r8.v ∧ -- waveportlaw07.refList
      CallV Tryz.prog 51 #[r8.v, p2.val] V8 fun v V9 => ∃ (r9 : Sl) (r10 : Int), v = .tuple #[r9.v, .int .i64 r10] ∧ -- waveportref07.Cut
      CallV Tryz.prog 43 #[r6.v, .int .i64 r7, r9.v, .int .i64 r10] V9 fun v V10 => ∃ r11 : Bool, v = .bool r11 ∧ -- waveportlaw07.answers
      ((!r11) = true →
        R (.bool false) V10) ∧
      ((!r11) = false →
        CallV Tryz.prog 52 #[p2.val, .int .i64 p4] V10 fun v V11 => ∃ (r12 : GateV) (r13 : Int), v = .tuple #[r12.val, .int .i64 r13] ∧ -- transform.Rest
      CallV Tryz.prog 53 #[p2.val, .int .i64 p4] V11 fun v V12 => ∃ (r14 : GateV) (r15 : Int), v = .tuple #[r14.val, .int .i64 r15] ∧ -- waveportref07.Rest
      (∃ c1 : Bool, NeAt Tryz.prog 89 (r12.val) (r14.val) c1 ∧
        (c1 = true →
        R (.bool false) V12) ∧
        (c1 = false →
        (((r13 : Int) != r15) = true →
          R (.bool false) V12) ∧
        (((r13 : Int) != r15) = false →
          E1 (C_waveportlaw07_TransformGates_1.mk r3 r4) (L_waveportlaw07_TransformGates_1.mk ()) V12))) ∧
      (∀ (x3 : L_waveportlaw07_TransformGates_1) (V13 : View), View.le V12 V13 → I1 (C_waveportlaw07_TransformGates_1.mk r3 r4) x3 V13 →
        CallV Tryz.prog 39 #[r3.v] V13 fun v V14 => ∃ r16 : Sl, v = r16.v ∧ -- waveportlaw01.List
        CallV Tryz.prog 39 #[r4.v] V14 fun v V15 => ∃ r17 : Sl, v = r17.v ∧ -- waveportlaw01.List
        CallV Tryz.prog 54 #[r16.v, r17.v, p2.val] V15 fun v V16 => ∃ (r18 : Sl) (r19 : Int), v = .tuple #[r18.v, .int .i64 r19] ∧ -- transform.Gated[num.Num]
        CallV Tryz.prog 40 #[r3.v] V16 fun v V17 => ∃ r20 : Sl, v = r20.v ∧ -- waveportlaw07.refList
        CallV Tryz.prog 40 #[r4.v] V17 fun v V18 => ∃ r21 : Sl, v = r21.v ∧ -- waveportlaw07.refList
        CallV Tryz.prog 55 #[r20.v, r21.v, p2.val] V18 fun v V19 => ∃ (r22 : Sl) (r23 : Int), v = .tuple #[r22.v, .int .i64 r23] ∧ -- waveportref07.Gated
        CallV Tryz.prog 43 #[r18.v, .int .i64 r19, r22.v, .int .i64 r23] V19 fun v V20 => ∃ r24 : Bool, v = .bool r24 ∧ -- waveportlaw07.answers
        ((!r24) = true →
          R (.bool false) V20) ∧
        ((!r24) = false →
          CallV Tryz.prog 39 #[r3.v] V20 fun v V21 => ∃ r25 : Sl, v = r25.v ∧ -- waveportlaw01.List
        CallV Tryz.prog 56 #[r25.v, p2.val, .int .i64 p3] V21 fun v V22 => ∃ (r26 : Sl) (r27 : Int), v = .tuple #[r26.v, .int .i64 r27] ∧ -- transform.Touched[num.Num]
        CallV Tryz.prog 40 #[r3.v] V22 fun v V23 => ∃ r28 : Sl, v = r28.v ∧ -- waveportlaw07.refList
        CallV Tryz.prog 57 #[r28.v, p2.val, .int .i64 p3] V23 fun v V24 => ∃ (r29 : Sl) (r30 : Int), v = .tuple #[r29.v, .int .i64 r30] ∧ -- waveportref07.Touched
        ((((r27 : Int) != r30) = true →
          R (.bool false) V24) ∧
          (((r27 : Int) != r30) = false →
          ((((r26.len : Int) : Int) != (r29.len : Int)) = true →
            R (.bool false) V24) ∧
          ((((r26.len : Int) : Int) != (r29.len : Int)) = false →
            E2 (C_waveportlaw07_TransformGates_2.mk r26 r29) (L_waveportlaw07_TransformGates_2.mk ()) V24))) ∧
        (∀ (x5 : L_waveportlaw07_TransformGates_2) (V25 : View), View.le V24 V25 → I2 (C_waveportlaw07_TransformGates_2.mk r26 r29) x5 V25 →
          E3 (C_waveportlaw07_TransformGates_3.mk r26 r29 (r26.len : Int)) (L_waveportlaw07_TransformGates_3.mk 0) V25 ∧
          (∀ (x8 : L_waveportlaw07_TransformGates_3) (V26 : View), View.le V25 V26 → I3 (C_waveportlaw07_TransformGates_3.mk r26 r29 (r26.len : Int)) x8 V26 →
            ((decide ((x8.t129 : Int) < (r26.len : Int))) = true →
              ((0 : Int) ≤ x8.t129 ∧ (x8.t129 : Int) < (r26.len : Nat) ∧ Option.isSome r26.a = true) ∧
            ∃ x9 : Int, View.load V26 (Option.map (fun q => Addr.add q (Int.toNat x8.t129 * 1)) r26.a) = some (.int .i64 x9) ∧
            ((0 : Int) ≤ x8.t129 ∧ (x8.t129 : Int) < (r29.len : Nat) ∧ Option.isSome r29.a = true) ∧
            ∃ x10 : Int, View.load V26 (Option.map (fun q => Addr.add q (Int.toNat x8.t129 * 1)) r29.a) = some (.int .i64 x10) ∧
            (((x9 : Int) != x10) = true →
              R (.bool false) V26) ∧
            (((x9 : Int) != x10) = false →
              B3 (C_waveportlaw07_TransformGates_3.mk r26 r29 (r26.len : Int)) (L_waveportlaw07_TransformGates_3.mk (IntKind.i64.wrap (x8.t129 + 1))) V26 x8 V26)) ∧
            ((decide ((x8.t129 : Int) < (r26.len : Int))) = false →
              CallV Tryz.prog 37 #[] V26 fun v V27 => ∃ r31 : Bool, v = .bool r31 ∧ -- waveportlaw07.awake
          R (.bool r31) V27)))))))

theorem waveportlaw07_TransformGates_v0 (p0 : Sl) (p1 : Sl) (p2 : GateV) (p3 : Int) (p4 : Int) (V : View) (R : Value → View → Prop) (I0 : Unit → L_waveportlaw07_TransformGates_0 → View → Prop) (I1 : C_waveportlaw07_TransformGates_1 → L_waveportlaw07_TransformGates_1 → View → Prop) (I2 : C_waveportlaw07_TransformGates_2 → L_waveportlaw07_TransformGates_2 → View → Prop) (I3 : C_waveportlaw07_TransformGates_3 → L_waveportlaw07_TransformGates_3 → View → Prop) (J3 : C_waveportlaw07_TransformGates_3 → L_waveportlaw07_TransformGates_3 → View → Nat) {X : Prop} (e : waveportlaw07_TransformGates_sk p0 p1 p2 p3 p4 V R I0 I1 I2 I3 I0 I1 I2 I3 (fun c w V x U => I3 c w V ∧ J3 c w V < J3 c x U) = X) (h : X) :
  CallV Tryz.prog 8 #[p0.v, p1.v, p2.val, .int .i64 p3, .int .i64 p4] V R :=
  calls_of_vc (Shp := Shp) hmixed Tryz.func8 (c := Tryz.f8.body.getD .skip) (args := [p0.v, p1.v, p2.val, .int .i64 p3, .int .i64 p4]) (by kernel_rfl)
    (.seq (.reg [⟨7, 3, false⟩, ⟨10, 9, false⟩]) (.cut Unit L_waveportlaw07_TransformGates_0 (fun _ => ()) (fun c x => { tm := spT 143 0 [(0, .val (p0.v)), (1, .val (p1.v)), (3, .val (.int .i64 p3)), (4, .val (.int .i64 p4)), (7, .own 7 0)], own := spO 143 0 [(7, ⟨89, .fixed [.val (.int .i64 p2.from_), .val (.int .i64 p2.count)]⟩)] }) I0 (.seq (.reg [⟨24, 2, false⟩, ⟨25, 0, false⟩, ⟨26, 0, false⟩, ⟨27, 2, true⟩, ⟨28, 2, false⟩, ⟨29, 0, false⟩, ⟨30, 0, false⟩, ⟨31, 20, false⟩]) (.cond (.seq (.reg [⟨32, 10, false⟩, ⟨10, 2, false⟩]) .leaf) .leaf)) (.seq (.reg [⟨33, 2, false⟩, ⟨34, 10, false⟩, ⟨0, 2, false⟩]) (.seq (.reg [⟨35, 2, false⟩, ⟨36, 10, false⟩, ⟨1, 2, false⟩]) (.seq (.draw [(0, ⟨38, 2, false⟩), (2, ⟨7, 4, false⟩), (1, ⟨39, 10, false⟩), (3, ⟨41, 10, false⟩), (4, ⟨37, 2, false⟩), (5, ⟨42, 0, false⟩), (6, ⟨43, 0, false⟩), (7, ⟨11, 2, false⟩), (8, ⟨12, 2, false⟩)] [0, 1, 0, 7, 15, 31, 31, 63, 255]) (.seq (.draw [(0, ⟨45, 2, false⟩), (2, ⟨7, 4, false⟩), (1, ⟨46, 10, false⟩), (3, ⟨48, 10, false⟩), (4, ⟨44, 2, false⟩), (5, ⟨49, 0, false⟩), (6, ⟨50, 0, false⟩), (7, ⟨13, 2, false⟩), (8, ⟨14, 2, false⟩)] [0, 1, 0, 7, 15, 31, 31, 63, 255]) (.seq (.seq (.reg [⟨51, 2, false⟩, ⟨52, 2, false⟩, ⟨53, 2, false⟩, ⟨54, 2, false⟩, ⟨55, 10, false⟩, ⟨56, 20, false⟩]) (.cond (.seq (.reg [⟨10, 9, false⟩]) .leaf) .leaf)) (.seq (.reg [⟨7, 4, false⟩, ⟨59, 2, false⟩, ⟨60, 10, false⟩, ⟨57, 2, false⟩, ⟨61, 0, false⟩, ⟨62, 0, false⟩, ⟨15, 3, false⟩, ⟨15, 6, false⟩, ⟨16, 2, false⟩]) (.seq (.reg [⟨7, 4, false⟩, ⟨65, 2, false⟩, ⟨66, 10, false⟩, ⟨63, 2, false⟩, ⟨67, 0, false⟩, ⟨68, 0, false⟩, ⟨17, 3, false⟩, ⟨17, 6, false⟩, ⟨18, 2, false⟩]) (.cut C_waveportlaw07_TransformGates_1 L_waveportlaw07_TransformGates_1 (fun σ => C_waveportlaw07_TransformGates_1.mk (Sl.mk (gSlA (gTm σ 0)) (gSlL (gTm σ 0)) (gSlC (gTm σ 0))) (Sl.mk (gSlA (gTm σ 1)) (gSlL (gTm σ 1)) (gSlC (gTm σ 1)))) (fun c x => { tm := spT 143 0 [(0, .val (c.t0.v)), (1, .val (c.t1.v)), (3, .val (.int .i64 p3)), (7, .own 7 0)], own := spO 143 0 [(7, ⟨89, .fixed [.val (.int .i64 p2.from_), .val (.int .i64 p2.count)]⟩)] }) I1 (.seq (.reg [⟨15, 4, false⟩, ⟨17, 4, false⟩, ⟨71, 12, false⟩, ⟨72, 2, true⟩, ⟨73, 2, false⟩, ⟨74, 2, false⟩, ⟨75, 0, false⟩, ⟨76, 20, false⟩]) (.cond (.seq (.reg [⟨10, 9, false⟩]) .leaf) .leaf)) (.seq (.draw [(0, ⟨78, 2, false⟩), (2, ⟨80, 2, false⟩), (4, ⟨7, 4, false⟩), (1, ⟨79, 10, false⟩), (3, ⟨81, 10, false⟩), (5, ⟨83, 10, false⟩), (6, ⟨77, 2, false⟩), (7, ⟨84, 0, false⟩), (8, ⟨85, 0, false⟩), (9, ⟨11, 2, false⟩), (10, ⟨12, 2, false⟩)] [0, 1, 0, 7, 0, 31, 63, 127, 127, 255, 1023]) (.seq (.draw [(0, ⟨87, 2, false⟩), (2, ⟨89, 2, false⟩), (4, ⟨7, 4, false⟩), (1, ⟨88, 10, false⟩), (3, ⟨90, 10, false⟩), (5, ⟨92, 10, false⟩), (6, ⟨86, 2, false⟩), (7, ⟨93, 0, false⟩), (8, ⟨94, 0, false⟩), (9, ⟨13, 2, false⟩), (10, ⟨14, 2, false⟩)] [0, 1, 0, 7, 0, 31, 63, 127, 127, 255, 1023]) (.seq (.seq (.reg [⟨95, 2, false⟩, ⟨96, 2, false⟩, ⟨97, 2, false⟩, ⟨98, 2, false⟩, ⟨99, 10, false⟩, ⟨100, 20, false⟩]) (.cond (.seq (.reg [⟨10, 9, false⟩]) .leaf) .leaf)) (.seq (.draw [(0, ⟨102, 2, false⟩), (2, ⟨7, 4, false⟩), (3, ⟨105, 2, false⟩), (1, ⟨103, 10, false⟩), (4, ⟨106, 10, false⟩), (5, ⟨101, 2, false⟩), (6, ⟨107, 0, false⟩), (7, ⟨108, 0, false⟩), (8, ⟨19, 2, false⟩), (9, ⟨20, 2, false⟩)] [0, 1, 0, 0, 15, 31, 63, 63, 127, 511]) (.seq (.draw [(0, ⟨110, 2, false⟩), (2, ⟨7, 4, false⟩), (3, ⟨113, 2, false⟩), (1, ⟨111, 10, false⟩), (4, ⟨114, 10, false⟩), (5, ⟨109, 2, false⟩), (6, ⟨115, 0, false⟩), (7, ⟨116, 0, false⟩), (8, ⟨21, 2, false⟩), (9, ⟨22, 2, false⟩)] [0, 1, 0, 0, 15, 31, 63, 63, 127, 511]) (.cut C_waveportlaw07_TransformGates_2 L_waveportlaw07_TransformGates_2 (fun σ => C_waveportlaw07_TransformGates_2.mk (Sl.mk (gSlA (gTm σ 19)) (gSlL (gTm σ 19)) (gSlC (gTm σ 19))) (Sl.mk (gSlA (gTm σ 21)) (gSlL (gTm σ 21)) (gSlC (gTm σ 21)))) (fun c x => { tm := spT 143 0 [(19, .val (c.t19.v)), (21, .val (c.t21.v))], own := spO 143 0 [] }) I2 (.seq (.reg [⟨117, 2, false⟩, ⟨118, 2, false⟩, ⟨119, 0, false⟩, ⟨120, 2, true⟩, ⟨121, 2, false⟩, ⟨122, 0, false⟩, ⟨123, 2, false⟩, ⟨124, 0, false⟩, ⟨125, 0, false⟩, ⟨126, 20, false⟩]) (.cond (.seq (.reg [⟨10, 9, false⟩]) .leaf) .leaf)) (.seq (.seq (.reg [⟨127, 2, false⟩, ⟨128, 0, false⟩, ⟨129, 2, false⟩]) (.block (.loop C_waveportlaw07_TransformGates_3 L_waveportlaw07_TransformGates_3 (fun σ => C_waveportlaw07_TransformGates_3.mk (Sl.mk (gSlA (gTm σ 19)) (gSlL (gTm σ 19)) (gSlC (gTm σ 19))) (Sl.mk (gSlA (gTm σ 21)) (gSlL (gTm σ 21)) (gSlC (gTm σ 21))) (gInt (gTm σ 128))) (fun c x => { tm := spT 143 0 [(19, .val (c.t19.v)), (21, .val (c.t21.v)), (128, .val (.int .i64 c.t128)), (129, .val (.int .i64 x.t129))], own := spO 143 0 [] }) I3 J3 (.seq (.reg [⟨130, 0, false⟩]) (.seq (.cond .leaf .leaf) (.seq (.block (.seq (.reg [⟨131, 2, false⟩, ⟨23, 2, false⟩]) (.seq (.draw [(0, ⟨132, 2, false⟩), (1, ⟨133, 2, false⟩), (2, ⟨134, 7, false⟩), (3, ⟨135, 5, false⟩), (4, ⟨136, 2, false⟩), (5, ⟨137, 2, false⟩), (6, ⟨138, 7, false⟩), (7, ⟨139, 5, false⟩), (8, ⟨140, 0, false⟩)] [0, 0, 3, 7, 0, 0, 48, 112, 255]) (.cond (.seq (.reg [⟨10, 9, false⟩]) .leaf) .leaf)))) (.reg [⟨141, 0, false⟩, ⟨129, 2, false⟩]))))))) (.seq (.reg [⟨142, 10, false⟩, ⟨10, 2, false⟩]) .leaf))))))))))))))))))
    (Eq.mpr (by kernel_rfl) (show waveportlaw07_TransformGates_sk p0 p1 p2 p3 p4 V R I0 I1 I2 I3 (fun c w V => ∃ x, waveportlaw07_TransformGates_f0 p0 p1 p2 p3 p4 c w x ∧ I0 c x V) (fun c w V => ∃ x, waveportlaw07_TransformGates_f1 p2 p3 c w x ∧ I1 c x V) (fun c w V => ∃ x, waveportlaw07_TransformGates_f2  c w x ∧ I2 c x V) (fun c w V => ∃ x, waveportlaw07_TransformGates_f3  c w x ∧ I3 c x V) (fun c w V y U => ∃ x, waveportlaw07_TransformGates_f3  c w x ∧ I3 c x V ∧ J3 c x V < J3 c y U) from by
    have h := Eq.mpr e h; unfold waveportlaw07_TransformGates_sk at h ⊢; have Ee0 := fun c w V (h : I0 c w V) => (⟨w, ⟨⟨rfl, rfl, rfl, rfl, rfl, trivial⟩, ⟨rfl, trivial⟩⟩, h⟩ : ∃ x, waveportlaw07_TransformGates_f0 p0 p1 p2 p3 p4 c w x ∧ I0 c x V); have Ee1 := fun c w V (h : I1 c w V) => (⟨w, ⟨⟨rfl, rfl, rfl, rfl, trivial⟩, ⟨rfl, trivial⟩⟩, h⟩ : ∃ x, waveportlaw07_TransformGates_f1 p2 p3 c w x ∧ I1 c x V); have Ee2 := fun c w V (h : I2 c w V) => (⟨w, ⟨⟨rfl, rfl, trivial⟩, trivial⟩, h⟩ : ∃ x, waveportlaw07_TransformGates_f2  c w x ∧ I2 c x V); have Ee3 := fun c w V (h : I3 c w V) => (⟨w, ⟨⟨rfl, rfl, rfl, rfl, trivial⟩, trivial⟩, h⟩ : ∃ x, waveportlaw07_TransformGates_f3  c w x ∧ I3 c x V); have Bb3 := fun c w V y U (h : I3 c w V ∧ J3 c w V < J3 c y U) => (⟨w, ⟨⟨rfl, rfl, rfl, rfl, trivial⟩, trivial⟩, h⟩ : ∃ x, waveportlaw07_TransformGates_f3  c w x ∧ I3 c x V ∧ J3 c x V < J3 c y U); exact ⟨⟨fun h6 => (CallV.mono (h.1.1 h6) (fun _ _ _ ⟨r1, h2, h1⟩ => ⟨r1, h2, h1⟩)), fun h6 => ⟨fun h5 => (CallV.mono ((h.1.2 h6).1 h5) (fun _ _ _ ⟨r2, h4, h3⟩ => ⟨r2, h4, h3⟩)), fun h5 => (Ee0 _ _ _ ((h.1.2 h6).2 h5))⟩⟩, fun x1 V1 h69 h70 => (CallV.mono (h.2 x1 V1 h69 h70) (fun _ _ _ ⟨r3, h68, h67⟩ => ⟨r3, h68, (CallV.mono h67 (fun _ _ _ ⟨r4, h66, h65⟩ => ⟨r4, h66, (CallV.mono h65 (fun _ _ _ ⟨r5, h64, h63⟩ => ⟨r5, h64, (CallV.mono h63 (fun _ _ _ ⟨r6, r7, h62, h61⟩ => ⟨r6, r7, h62, (CallV.mono h61 (fun _ _ _ ⟨r8, h60, h59⟩ => ⟨r8, h60, (CallV.mono h59 (fun _ _ _ ⟨r9, r10, h58, h57⟩ => ⟨r9, r10, h58, (CallV.mono h57 (fun _ _ _ ⟨r11, h56, h55⟩ => ⟨r11, h56, ⟨fun h54 => (h55.1 h54), fun h54 => (CallV.mono (h55.2 h54) (fun _ _ _ ⟨r12, r13, h53, h52⟩ => ⟨r12, r13, h53, (CallV.mono h52 (fun _ _ _ ⟨r14, r15, h51, h50⟩ => ⟨r14, r15, h51, ⟨(match h50.1 with | ⟨c1, h10, h9⟩ => ⟨c1, h10, ⟨fun h8 => (h9.1 h8), fun h8 => ⟨fun h7 => ((h9.2 h8).1 h7), fun h7 => (Ee1 _ _ _ ((h9.2 h8).2 h7))⟩⟩⟩), fun x3 V13 h48 h49 => (CallV.mono (h50.2 x3 V13 h48 h49) (fun _ _ _ ⟨r16, h47, h46⟩ => ⟨r16, h47, (CallV.mono h46 (fun _ _ _ ⟨r17, h45, h44⟩ => ⟨r17, h45, (CallV.mono h44 (fun _ _ _ ⟨r18, r19, h43, h42⟩ => ⟨r18, r19, h43, (CallV.mono h42 (fun _ _ _ ⟨r20, h41, h40⟩ => ⟨r20, h41, (CallV.mono h40 (fun _ _ _ ⟨r21, h39, h38⟩ => ⟨r21, h39, (CallV.mono h38 (fun _ _ _ ⟨r22, r23, h37, h36⟩ => ⟨r22, r23, h37, (CallV.mono h36 (fun _ _ _ ⟨r24, h35, h34⟩ => ⟨r24, h35, ⟨fun h33 => (h34.1 h33), fun h33 => (CallV.mono (h34.2 h33) (fun _ _ _ ⟨r25, h32, h31⟩ => ⟨r25, h32, (CallV.mono h31 (fun _ _ _ ⟨r26, r27, h30, h29⟩ => ⟨r26, r27, h30, (CallV.mono h29 (fun _ _ _ ⟨r28, h28, h27⟩ => ⟨r28, h28, (CallV.mono h27 (fun _ _ _ ⟨r29, r30, h26, h25⟩ => ⟨r29, r30, h26, ⟨⟨fun h12 => (h25.1.1 h12), fun h12 => ⟨fun h11 => ((h25.1.2 h12).1 h11), fun h11 => (Ee2 _ _ _ ((h25.1.2 h12).2 h11))⟩⟩, fun x5 V25 h23 h24 => ⟨(Ee3 _ _ _ (h25.2 x5 V25 h23 h24).1), fun x8 V26 h21 h22 => ⟨fun h20 => ⟨(((h25.2 x5 V25 h23 h24).2 x8 V26 h21 h22).1 h20).1, (match (((h25.2 x5 V25 h23 h24).2 x8 V26 h21 h22).1 h20).2 with | ⟨x9, h17, h16⟩ => ⟨x9, h17, ⟨h16.1, (match h16.2 with | ⟨x10, h15, h14⟩ => ⟨x10, h15, ⟨fun h13 => (h14.1 h13), fun h13 => (Bb3 _ _ _ _ _ (h14.2 h13))⟩⟩)⟩⟩)⟩, fun h20 => (CallV.mono (((h25.2 x5 V25 h23 h24).2 x8 V26 h21 h22).2 h20) (fun _ _ _ ⟨r31, h19, h18⟩ => ⟨r31, h19, h18⟩))⟩⟩⟩⟩))⟩))⟩))⟩))⟩⟩))⟩))⟩))⟩))⟩))⟩))⟩))⟩⟩))⟩))⟩⟩))⟩))⟩))⟩))⟩))⟩))⟩))⟩))

/-- waveport/waveportlaw07.TransformGates -/
theorem waveportlaw07_TransformGates_vc : type_of% (fun p0 p1 p2 p3 p4 V R I0 I1 I2 I3 J3 => waveportlaw07_TransformGates_v0 p0 p1 p2 p3 p4 V R I0 I1 I2 I3 J3 (waveportlaw07_TransformGates_sk.eq_1 ..)) := fun p0 p1 p2 p3 p4 V R I0 I1 I2 I3 J3 => waveportlaw07_TransformGates_v0 p0 p1 p2 p3 p4 V R I0 I1 I2 I3 J3 (waveportlaw07_TransformGates_sk.eq_1 ..)

end Go.Proofs.YtcapadojlaojkaaGreat

namespace Go.Proofs.YtcapadojlaojkaaGreat
open Go Go.Vc Go.Proofs

/-- The fourth roots of one. -/
def all4 : List Cq := [⟨1, 0⟩, ⟨0, -1⟩, ⟨-1, 0⟩, ⟨0, 1⟩]
def rootsQ (n : Nat) : List Cq := (List.range n).map fun j => nth all4 (4 / n * j)

theorem all4_1 : (⟨((1 : Int) : Rat), 0⟩ : Cq) = ⟨1, 0⟩ := Cq.ext' (by simp) rfl
theorem all4_2 : (⟨((0 : Int) : Rat) / ((1 : Int) : Rat), ((-1 : Int) : Rat) / ((1 : Int) : Rat)⟩ : Cq) = ⟨0, -1⟩ := Cq.ext' (by simp only []; grind) (by simp only []; grind)
theorem all4_3 : (⟨((-1 : Int) : Rat), 0⟩ : Cq) = ⟨-1, 0⟩ := Cq.ext' (by simp only []; grind) rfl
theorem all4_4 : -(⟨0, -1⟩ : Cq) = ⟨0, 1⟩ := Cq.ext' (by rw [Cq.neg_re]; grind) (by rw [Cq.neg_im]; grind)

theorem transform_Exact_spec {V : View} {n : Nat} (hn : n = 1 ∨ n = 2 ∨ n = 4) :
    CallV Tryz.prog n_transform_Exact #[.int .i64 (n : Int)] V fun v V' => ∃ r : Sl, v = .tuple #[r.v, .int .i64 0] ∧ NumsAt V' r (rootsQ n) := by
  have hd : (4 / n) * n = 4 := by rcases hn with rfl | rfl | rfl <;> rfl
  have hpos : 1 ≤ 4 / n := by rcases hn with rfl | rfl | rfl <;> decide
  have hn4 : n ≤ 4 := by omega
  have hn0 : n ≠ 0 := by omega
  have hdi : Int.tdiv 4 (n : Int) = ((4 / n : Nat) : Int) := by rcases hn with rfl | rfl | rfl <;> rfl
  have hw : IntKind.i64.wrap (Int.tdiv 4 (n : Int)) = ((4 / n : Nat) : Int) := by
    rw [hdi]
    refine i64w (by omega) ?_
    have : 4 / n ≤ 4 := Nat.div_le_self _ _
    omega
  have hq : 4 / n ≤ 4 := Nat.div_le_self _ _
  refine transform_Exact_vc (n : Int) V _ (fun c x V' => ∃ l, NumsAt V' c.t6 all4 ∧ x.t8 = (4 / n * x.t7l : Nat) ∧ x.t7l ≤ n ∧ LstOk 5 x.t7l x.t7c x.o7 l ∧ NumsIn V' l ((List.range x.t7l).map fun j => nth all4 (4 / n * j)))
    (fun _ x _ => n - x.t7l) ((transform_length_spec (Int.natCast_nonneg _)).mono fun v V1 l1 hv => ⟨_, hv, fun h => ?_, fun h => ⟨fun h => ?_, fun _ => ?_⟩⟩)
  · exfalso
    rw [Int.toNat_natCast] at h
    rcases hn with rfl | rfl | rfl <;> exact absurd h (by decide)
  · exfalso; simp at h; omega
  refine (num_New_spec (by omega) (by omega) (by omega) (by omega) (by omega) (by omega) (by omega)).mono fun v V2 l2 ⟨r2, hv, h2⟩ => ⟨r2, 0, hv, ?_⟩
  refine (num_Int_spec (by omega) (by omega)).mono fun v V3 l3 ⟨r4, hv, h4⟩ => ⟨r4, hv, ?_⟩
  refine (num_Int_spec (by omega) (by omega)).mono fun v V4 l4 ⟨r5, hv, h5⟩ => ⟨r5, hv, ?_⟩
  rw [all4_2] at h2
  rw [all4_1] at h4
  rw [all4_3] at h5
  refine (Num_Neg_spec (h2.le (View.le_trans l3 l4))).mono fun v V5 l5 ⟨r6, hv, h6⟩ => ⟨r6, hv, ?_⟩
  rw [all4_4] at h6
  intro b V6 l6 hf hb
  have hall : NumsAt V6 (Sl.mk (some (Addr.mk b 0 none)) 4 4) all4 :=
    ListAt.of_made (o := [.bool r4.re.neg, r4.re.mag.v, .bool r4.im.neg, r4.im.mag.v, r4.under.v] ++ ([.bool r2.re.neg, r2.re.mag.v, .bool r2.im.neg, r2.im.mag.v, r2.under.v] ++ ([.bool r5.re.neg, r5.re.mag.v, .bool r5.im.neg, r5.im.mag.v, r5.under.v] ++ ([.bool r6.re.neg, r6.re.mag.v, .bool r6.im.neg, r6.im.mag.v, r6.under.v] ++ []))))
      (by simpa using hb)
      ⟨_, _, rfl, rfl, ⟨r4, rfl, h4.le (View.le_trans l4 (View.le_trans l5 l6))⟩, _, _, rfl, rfl, ⟨r2, rfl, h2.le (View.le_trans l3 (View.le_trans l4 (View.le_trans l5 l6)))⟩, _, _, rfl, rfl, ⟨r5, rfl, h5.le (View.le_trans l5 l6)⟩, _, _, rfl, rfl, ⟨r6, rfl, h6.le l6⟩, rfl⟩ rfl
  refine ⟨⟨[], hall, by simp, by simp, LstOk.nil, rfl⟩, ?_⟩
  rintro ⟨k, c, t, o⟩ V7 l7 ⟨l, hA, ht, hk, hlo, hin⟩
  simp only at hA ht hk hlo hin ⊢
  refine ⟨fun hlt => ?_, fun hge => ?_⟩
  · simp only [decide_eq_true_eq] at hlt
    have hkn : k < n := by
      rcases Nat.lt_or_ge k n with h | h
      · exact h
      · have := Nat.mul_le_mul_left (4 / n) h
        omega
    obtain ⟨hb', x, hx, hs, hnx⟩ := hA.get (t := t) (by omega) (by simp [all4]; omega)
    refine ⟨hb', x, hx, hs, fun b2 V8 l8 hf8 hb8 => ?_⟩
    refine ⟨l, _, hlo, has_block (l := [.bool x.re.neg, x.re.mag.v, .bool x.im.neg, x.im.mag.v, x.under.v]) hb8, rfl, oneCell_num x, Nat.le_trans (show k + 1 ≤ 5 by omega) (show 5 ≤ maxLen by decide), by omega, fun c1 l3' hl3 => ⟨by omega, ⟨_, hA.le l8, ?_, by omega, hl3, ?_⟩, by omega⟩⟩
    · rw [hw, i64w (by omega) (by omega), ht, Nat.mul_add]; omega
    · rw [← push_range]
      have e3 : 4 / n * k = t.toNat := by omega
      rw [e3]
      exact (hin.le l8).push (hnx.le l8)
  · simp only [decide_eq_false_iff_not] at hge
    intro b3 V9 l9 hb9
    refine ⟨_, rfl, ?_⟩
    have hkn : k = n := by
      rcases Nat.lt_or_ge k n with h | h
      · have := Nat.mul_le_mul_left (4 / n) (show k + 1 ≤ n from h)
        rw [Nat.mul_add] at this
        omega
      · omega
    subst hkn
    refine ListAt.of_lst hlo hb9 (hin.le l9) ?_
    simp [rootsQ]

theorem transform_Fast_spec {V : View} {p w : Sl} {m : Nat} {zs ws : List Cq} (S T : Nat) (hm : m ≤ 6) (hz : zs.length = 2 ^ m) (hw : ws.length = 2 ^ m) (hp : NumsAt V p zs) (hq : NumsAt V w ws)
    (hS : ∀ i, i < 2 ^ m → (nth zs i).sz ≤ S) (hT : ∀ i, i < 2 ^ m → (nth ws i).sz ≤ T) (hsz : 2 ^ m * (S + T + 2) ≤ 2 ^ 39) :
    CallV Tryz.prog n_transform_Fast_num_Num_ #[p.v, w.v] V fun v V' => ∃ r : Sl, v = .tuple #[r.v, .int .i64 0] ∧ NumsAt V' r (stageF m zs ws) := by
  have hpl := hp.len
  have hwl := hq.len
  have hl : lenB w.len = true := by
    rw [hwl, hw]
    have key : ∀ m ∈ List.range 7, lenB (2 ^ m) = true := by decide
    exact key m (by simp; omega)
  refine transform_Fast_num_Num__vc p w V _ ((transform_fits_spec p w).mono fun v V1 l1 hv => ⟨_, hv, fun h => ?_, fun h => ?_⟩)
  · rw [hl] at h; simp at h; omega
  · have ne : stageF m zs ws ≠ [] := by
      intro e
      have := stageF_length m zs ws
      rw [e] at this; simp at this
      have : 0 < 2 ^ m := Nat.pow_pos (by omega)
      omega
    exact (CallO.nums ne (transform_stage_owned m S T hm hz hw (hp.le l1) (hq.le l1) hS hT hsz)).mono fun v V2 l2 ⟨r, hv, hr⟩ => ⟨r, hv, r, rfl, hr⟩

def gateOk (g : GateV) (n : Int) : Prop := 0 ≤ g.from_ ∧ g.from_ < n ∧ 0 ≤ g.count ∧ g.count ≤ n
theorem transform_valid_ok {V : View} {g : GateV} {n : Nat} (hl : lenB n = true) (h : gateOk g n) :
    CallV Tryz.prog n_transform_valid #[g.val, .int .i64 (n : Int)] V fun v _ => v = .int .i64 0 := by
  obtain ⟨h1, h2, h3, h4⟩ := h
  refine transform_valid_vc g n V _ ((transform_length_spec (Int.natCast_nonneg _)).mono fun v V1 l1 hv => ⟨_, hv, fun h => ?_, fun _ => ⟨fun h => ?_, fun _ => ⟨fun h => ?_, fun _ => ⟨fun h => ?_, fun _ => ⟨fun h => ?_, fun _ => rfl⟩⟩⟩⟩⟩)
  · rw [Int.toNat_natCast, hl] at h; simp at h
  · simp at h; omega
  · simp at h; omega
  · simp at h; omega
  · simp at h; omega
theorem transform_Rest_ok {V : View} {g : GateV} {n : Nat} (hl : lenB n = true) (h : gateOk g n) :
    CallV Tryz.prog n_transform_Rest #[g.val, .int .i64 (n : Int)] V fun v _ => v = .tuple #[(GateV.mk ((g.from_ + g.count) % n) (n - g.count)).val, .int .i64 0] := by
  have hb := lenB_le hl
  obtain ⟨h1, h2, h3, h4⟩ := id h
  refine transform_Rest_vc g n V _ ((transform_valid_ok hl h).mono fun v V1 l1 hv => ⟨_, hv, fun h => ?_, fun _ => ⟨by omega, ?_⟩⟩)
  · simp at h
  · rw [i64w (by omega) (by omega), i64w (by omega) (by omega), Int.tmod_eq_emod_of_nonneg (by omega)]

theorem slices_Reverse_one {V : View} {c : Nat} {w : List Value} :
    CallD Tryz.prog n_slices_Reverse___byte_byte_ (fun b => (Value.slice (some ⟨b, 0, none⟩) 1 c :: [] : List Value)) T_u8 w V fun v l _ => v = .tuple #[] ∧ l = w := by
  refine slices_Reverse___byte_byte__vc 0 1 c w V _ (fun _ x _ => x.t2 = 0 ∧ x.t3 = 0 ∧ x.o0 = w) (fun _ _ _ => 0) ⟨⟨rfl, (by decide : IntKind.i64.wrap (((1 : Nat) : Int) - 1) = 0), rfl⟩, ?_⟩
  rintro ⟨a, b, o⟩ V1 l1 ⟨h1, h2, h3⟩
  dsimp only at h1 h2 h3 ⊢
  subst h1; subst h2; subst h3
  exact ⟨fun h => absurd h (by simp), fun _ => ⟨rfl, rfl⟩⟩

/-- One decimal. -/
theorem nat_digits_one {V : View} {s : Sl} {n : Nat} (h : NatAt V s n) (h0 : 0 < n) (h9 : n < 10) :
    CallV Tryz.prog n_nat_digits #[s.v] V fun v _ => v = .string (ByteArray.mk #[UInt8.ofNat (48 + n)]) := by
  have hl := h.len_zero
  refine nat_digits_vc s V _
    (fun _ x V' => (NatAt V' x.t0 n ∧ x.t3l = 0 ∧ x.t3c = 0 ∧ x.o3 = []) ∨ (x.t0.len = 0 ∧ x.t3l = 1 ∧ LstOk 1 1 x.t3c x.o3 [.int .u8 ((48 + n : Nat) : Int)])) (fun _ x _ => x.t0.len)
    (fun c x V' => c.t0.len = 0 ∧ ((x.t3l = 0 ∧ x.t3c = 0 ∧ x.t4 = n ∧ x.t5 = 0 ∧ x.o3 = []) ∨ (x.t3l = 1 ∧ x.t4 = 0 ∧ x.t5 = 1 ∧ LstOk 1 1 x.t3c x.o3 [.int .u8 ((48 + n : Nat) : Int)]))) (fun _ x _ => 1 - x.t3l)
    ⟨fun h1 => ?_, fun _ => ⟨.inl ⟨h, rfl, rfl, rfl⟩, ?_⟩⟩
  · exfalso; have h1 : (s.len : Int) = 0 := (by simpa using h1); omega
  rintro ⟨t0, t3l, t3c, o3⟩ V1 l1 hI
  dsimp only at hI ⊢
  refine ⟨fun hp => ?_, fun hz => ?_⟩
  · simp only [gt_iff_lt, decide_eq_true_eq] at hp
    rcases hI with ⟨hA, rfl, rfl, rfl⟩ | ⟨hA, _⟩
    rotate_left
    · exfalso; omega
    have hw : wn n ≤ 2 ^ 45 := by have : wn n ≤ 2 := wn_le_of_lt (by omega); omega
    refine (nat_short_spec hA hw (d := 1000000000) (by omega) (by omega)).mono fun v V2 l2 ⟨r1, hv, hr1⟩ => ⟨r1, _, hv, ?_⟩
    rw [Nat.div_eq_of_lt (by omega)] at hr1
    have hr0 : r1.len = 0 := hr1.len_zero.2 rfl
    rw [Nat.mod_eq_of_lt (by omega)]
    refine ⟨⟨hr0, .inl ⟨rfl, rfl, rfl, rfl, rfl⟩⟩, ?_⟩
    rintro ⟨t3l, t3c, t4, t5, o3⟩ V3 l3 ⟨_, hI⟩
    dsimp only at hI ⊢
    refine ⟨fun h9 => ⟨fun h => ?_, fun _ => ⟨fun hpos => ?_, fun hnp => ?_⟩⟩, fun h9 => ?_⟩
    · exfalso; simp [hr0] at h
    · simp only [gt_iff_lt, decide_eq_true_eq] at hpos
      rcases hI with ⟨rfl, rfl, rfl, rfl, rfl⟩ | ⟨rfl, rfl, rfl, hA⟩
      rotate_left
      · exfalso; omega
      intro b1 V4 l4 hf hb
      have ed : IntKind.u8.wrap (IntKind.u32.wrap (48 + Int.tmod (n : Int) 10)) = ((48 + n : Nat) : Int) := by
        have e1 : Int.tmod (n : Int) 10 = n := by rw [Int.tmod_eq_emod_of_nonneg (by omega)]; omega
        rw [e1, u32w (by omega) (by omega)]
        have : ∀ n ∈ List.range 10, IntKind.u8.wrap (48 + (n : Int)) = ((48 + n : Nat) : Int) := by decide
        exact this n (by simp; omega)
      rw [ed] at hb
      refine ⟨[], [.int .u8 ((48 + n : Nat) : Int)], LstOk.nil, has_block hb, rfl, ?_, by decide, by decide, fun c1 l3 hl3 => ⟨⟨hr0, .inr ⟨rfl, ?_, ?_, hl3⟩⟩, ?_⟩⟩
      · intro v hv; simp at hv; subst hv; rfl
      · show IntKind.u32.wrap (Int.tdiv (n : Int) 10) = 0
        have e1 : Int.tdiv (n : Int) 10 = 0 := by rw [Int.tdiv_eq_ediv_of_nonneg (by omega)]; omega
        rw [e1]; decide
      · show IntKind.i64.wrap (0 + 1) = 1
        decide
      · show 1 - (0 + 1) < 1 - 0
        decide
    · simp only [gt_iff_lt, decide_eq_false_iff_not] at hnp
      rcases hI with ⟨rfl, rfl, rfl, rfl, rfl⟩ | ⟨rfl, rfl, rfl, hA⟩
      · exfalso; omega
      · exact ⟨.inr ⟨hr0, rfl, hA⟩, by show r1.len < t0.len; omega⟩
    · rcases hI with ⟨rfl, rfl, rfl, rfl, rfl⟩ | ⟨rfl, rfl, rfl, hA⟩ <;> exact absurd h9 (by simp)
  · simp only [gt_iff_lt, decide_eq_false_iff_not] at hz
    rcases hI with ⟨hA, rfl, rfl, rfl⟩ | ⟨hA, rfl, hlo⟩
    · exfalso; have := hA.len_zero; omega
    obtain ⟨o', e⟩ := hlo.split
    have hc := hlo.le
    refine ⟨⟨by rw [e]; simp, ⟨by omega, trivial⟩, trivial⟩, slices_Reverse_one.mono fun v l V7 l7 ⟨hv, hl⟩ => ⟨hv, fun b4 V8 l8 hb => ?_⟩⟩
    rw [hl] at hb
    refine ⟨[UInt8.ofNat (48 + n)], ?_, rfl, rfl, rfl⟩
    have hh := has_block hb
    intro j v hj
    refine hh j v ?_
    rw [e]
    have ev : byteV (UInt8.ofNat (48 + n)) = .int .u8 ((48 + n : Nat) : Int) := by
      unfold byteV
      have : ∀ n ∈ List.range 10, ((UInt8.ofNat (48 + n)).toNat : Int) = ((48 + n : Nat) : Int) := by decide
      rw [this n (by simp; omega)]
    cases j with
    | zero =>
      simp only [List.map_cons, List.map_nil, List.getElem?_cons_zero, Option.some.injEq] at hj
      rw [← hj, ev]; rfl
    | succ j => simp at hj

theorem small2 : ((1 + 1 : Nat) : Int) ≤ IntKind.i64.max := by decide
/-- A part of one decimal. -/
theorem num_part_one {V : View} {x : WhV} {s : Sl} {a : Int} (hx : IntAt V x a) (hs : NatAt V s 1) (h0 : a ≠ 0) (h9 : a.natAbs < 10) :
    CallV Tryz.prog n_num_part #[x.val, s.v] V fun v _ => v = .string (if a < 0 then ByteArray.mk #[45] ++ ByteArray.mk #[UInt8.ofNat (48 + a.natAbs)] else ByteArray.mk #[UInt8.ofNat (48 + a.natAbs)]) := by
  obtain ⟨e1, e2, e3⟩ := Cq.ofInt_eqs a
  have hw : wn a.natAbs ≤ 2 ^ 43 := by have : wn a.natAbs ≤ 2 := wn_le_of_lt (by omega); omega
  have hw0 : wn (0 : Int).natAbs ≤ 2 ^ 43 := by have : wn 0 ≤ 2 := wn_le_of_lt (by omega); simp; omega
  have hw1 : wn 1 ≤ 2 ^ 43 := by have : wn 1 ≤ 2 := wn_le_of_lt (by omega); omega
  refine num_part_vc x s V _ ((num_over_spec hx (IntAt.zero V) hs (Rep.ofInt a) hw hw0 hw1).mono fun v V1 l1 ⟨r1, hv, hr⟩ => ⟨r1, hv, ?_⟩)
  have hre := hr.re
  have hun := hr.under
  rw [e1] at hre
  rw [e3, if_pos rfl] at hun
  have hul : r1.under.len = 0 := hun.len_zero.2 rfl
  refine (nat_digits_one hre.2 (by omega) h9).mono fun v V2 l2 hv => ⟨_, hv, fun hneg => ⟨small2, fun h => ?_, fun _ => ?_⟩, fun hneg => ⟨fun h => ?_, fun _ => ?_⟩⟩
  · exfalso; simp [hul] at h
  · rw [hre.1] at hneg
    rw [if_pos (by simpa using hneg)]
  · exfalso; simp [hul] at h
  · rw [hre.1] at hneg
    rw [if_neg (by simpa using hneg)]

theorem eqAt_gate : Go.Vc.EqAt Tryz.prog TN_api_Gate ((GateV.mk 1 2).val) ((GateV.mk 1 2).val) true := fun w => by kernel_rfl

theorem awakeQ_eqs : (Cq.mk (-2) 2).A = -2 ∧ (Cq.mk (-2) 2).B = 2 ∧ (Cq.mk (-2) 2).D = 1 :=
  Canon.eqs ⟨⟨by omega, by simp only []; rw [Rat.div_def]; grind, by simp only []; rw [Rat.div_def]; grind⟩, by decide⟩

theorem small3 : ((1 + 1 : Nat) : Int) ≤ IntKind.i64.max := by decide
theorem small4 : ((1 + 2 : Nat) : Int) ≤ IntKind.i64.max := by decide
theorem small5 : ((2 + 3 : Nat) : Int) ≤ IntKind.i64.max := by decide

theorem Num_Text_awake {V : View} {x : NumV} (h : NumAt V x ⟨-2, 2⟩) :
    CallV Tryz.prog n_Num_Text #[x.val] V fun v _ => v = .string (ByteArray.mk #[45, 50, 43, 50, 105]) := by
  obtain ⟨e1, e2, e3⟩ := awakeQ_eqs
  have hre := h.re
  have him := h.im
  rw [e1] at hre
  rw [e2] at him
  refine Num_Text_vc x V _ ((Num_Real_spec h).mono fun v V1 l1 hv => ⟨_, hv, fun hr => ?_, fun _ => ?_⟩)
  · exfalso
    simp at hr
  refine (Num_den_spec (h.le l1)).mono fun v V4 l4 ⟨r4, hv, h4⟩ => ⟨r4, hv, ?_⟩
  rw [e3] at h4
  refine (num_part_one (him.le (View.le_trans l1 l4)) h4 (by omega) (by decide)).mono fun v V5 l5 hv => ⟨_, hv, small3, fun h0 => ?_, fun _ => ⟨fun _ => ?_, fun hn => ?_⟩⟩
  · exfalso
    have h0 : x.re.mag.len = 0 := by have : (x.re.mag.len : Int) = 0 := (by simpa using h0); omega
    have := hre.2.len_zero.1 h0
    omega
  · refine ⟨small4, (Num_den_spec (h.le (View.le_trans l1 (View.le_trans l4 l5)))).mono fun v V6 l6 ⟨r6, hv, h6⟩ => ⟨r6, hv, ?_⟩⟩
    rw [e3] at h6
    refine (num_part_one (hre.le (View.le_trans l1 (View.le_trans l4 (View.le_trans l5 l6)))) h6 (by omega) (by decide)).mono fun v V7 l7 hv => ⟨_, hv, small5, ?_⟩
    rfl
  · exfalso
    rw [him.1] at hn
    exact absurd hn (by decide)

def four : List RatV := [⟨1, 0, 0⟩, ⟨2, 0, 0⟩, ⟨3, 0, 0⟩, ⟨4, 0, 0⟩]
theorem four_ok : ∀ r ∈ four, ratI r := by
  intro r hr
  simp only [four, List.mem_cons, List.not_mem_nil, or_false] at hr
  rcases hr with rfl | rfl | rfl | rfl <;> exact ⟨⟨by decide, by decide⟩, ⟨by decide, by decide⟩, ⟨by decide, by decide⟩⟩
theorem four_sz : ∀ i, i < 2 ^ 2 → (nth (four.map ratQ) i).sz ≤ 4 := by
  decide +kernel
theorem roots_sz : ∀ i, i < 2 ^ 2 → (nth (rootsQ 4) i).sz ≤ 4 := by
  decide +kernel
theorem awake_stage : nth (stageF 2 (four.map ratQ) (rootsQ 4)) 1 = ⟨-2, 2⟩ := by
  decide +kernel

theorem ratC_of (V : View) (a b c : Int) : ratC V [.int .i64 a, .int .i64 b, .int .i64 c] ⟨a, b, c⟩ := by unfold ratC; rfl

theorem awake_spec {V : View} : CallV Tryz.prog n_waveportlaw07_awake #[] V fun v _ => v = .bool true := by
  refine waveportlaw07_awake_vc V _ ((transform_Exact_spec (n := 4) (by omega)).mono fun v V1 l1 ⟨w, hv, hw⟩ => ⟨w, 0, hv, ?_⟩)
  intro b V2 l2 hf hb
  have hrs : RatsAt V2 (Sl.mk (some (Addr.mk b 0 none)) 4 4) four :=
    ListAt.of_made (o := [.int .i64 1, .int .i64 0, .int .i64 0] ++ ([.int .i64 2, .int .i64 0, .int .i64 0] ++ ([.int .i64 3, .int .i64 0, .int .i64 0] ++ ([.int .i64 4, .int .i64 0, .int .i64 0] ++ []))))
      (by simpa using hb) ⟨_, _, rfl, rfl, ratC_of _ _ _ _, _, _, rfl, rfl, ratC_of _ _ _ _, _, _, rfl, rfl, ratC_of _ _ _ _, _, _, rfl, rfl, ratC_of _ _ _ _, rfl⟩ rfl
  refine (law1_List_spec hrs four_ok (by decide)).mono fun v V3 l3 ⟨r3, hv, h3⟩ => ⟨r3, hv, ?_⟩
  refine (transform_Fast_spec (m := 2) 4 4 (by omega) rfl rfl h3 (hw.le (View.le_trans l2 l3)) four_sz roots_sz (by decide)).mono fun v V4 l4 ⟨r4, hv, h4⟩ => ⟨r4, 0, hv, ?_⟩
  refine (transform_Rest_ok (g := GateV.mk 3 2) (n := 4) (by decide) ⟨by decide, by decide, by decide, by decide⟩).mono fun v V5 l5 hv => ⟨GateV.mk 1 2, 0, hv, ?_⟩
  have hl : r4.len = 4 := h4.len
  obtain ⟨hb', x, hx, hs, hnx⟩ := (h4.le l5).get (t := 1) (by omega) (by show 1 < 4; omega)
  have e1 : nth (stageF 2 (four.map ratQ) (rootsQ 4)) (Int.toNat 1) = ⟨-2, 2⟩ := awake_stage
  rw [e1] at hnx
  refine ⟨fun _ => ⟨fun _ => ⟨fun _ => ⟨fun _ => ⟨hb', x, hx, hs, (Num_Text_awake hnx).mono fun v V6 l6 hv => ⟨_, hv, fun _ => ⟨true, eqAt_gate, rfl⟩, fun h => ?_⟩⟩, fun h => ?_⟩, fun h => ?_⟩, fun h => ?_⟩, fun h => ?_⟩
  · simp at h
  · simp [hl] at h
  · simp at h
  · simp at h
  · simp at h
end Go.Proofs.YtcapadojlaojkaaGreat

namespace Go.Proofs.YtcapadojlaojkaaGreat
open Go Go.Vc Go.Proofs

/-- A number of small parts. -/
def smallR (r : RatV) : RatV := ⟨Int.tmod r.re 21, Int.tmod r.im 21, ((Int.tmod r.den 6).natAbs + 1 : Nat)⟩
def tame (r : RatV) : Prop := (-20 ≤ r.re ∧ r.re ≤ 20) ∧ (-20 ≤ r.im ∧ r.im ≤ 20) ∧ 0 ≤ r.den ∧ r.den ≤ 6
theorem tame.ok {r : RatV} (h : tame r) : ratI r := by
  obtain ⟨⟨a, b⟩, ⟨c, d⟩, e, f⟩ := h
  exact ⟨⟨by omega, by omega⟩, ⟨by omega, by omega⟩, ⟨by omega, by omega⟩⟩
theorem tmod_range (a : Int) {b : Int} (hb : 0 < b) : -b < Int.tmod a b ∧ Int.tmod a b < b := by
  have h1 := Int.tmod_lt_of_pos a hb
  have h2 := Int.tmod_lt_of_pos (-a) hb
  rw [Int.neg_tmod] at h2
  omega
theorem smallR_tame (r : RatV) : tame (smallR r) := by
  have h1 := tmod_range r.re (b := 21) (by omega)
  have h2 := tmod_range r.im (b := 21) (by omega)
  have h3 := tmod_range r.den (b := 6) (by omega)
  refine ⟨⟨?_, ?_⟩, ⟨?_, ?_⟩, ?_, ?_⟩ <;> simp only [smallR] <;> omega
theorem tame_sz {r : RatV} (h : tame r) : (ratQ r).sz ≤ 5 := by
  obtain ⟨⟨a, b⟩, ⟨c, d⟩, e, f⟩ := h
  have key : Rep (ratQ r) r.re r.im (if r.den = 0 then 1 else r.den.toNat) := by
    unfold ratQ
    split
    · refine ⟨by omega, ?_, ?_⟩ <;> simp only [] <;> rw [Rat.div_def] <;> simp <;> grind
    · have e : ((r.den.toNat : Nat) : Rat) = (r.den : Rat) := by
        have : ((r.den.toNat : Nat) : Int) = r.den := by omega
        rw [← this]; rfl
      exact ⟨by omega, by simp only [e], by simp only [e]⟩
  refine key.sz ?_ ?_ ?_
  · exact bl_le_of_lt (by omega)
  · exact bl_le_of_lt (by omega)
  · exact bl_le_of_lt (by split <;> omega)

theorem small_spec {V : View} (r : RatV) : CallV Tryz.prog n_waveportlaw07_small #[r.val] V fun v _ => v = (smallR r).val := by
  have h3 := tmod_range r.den (b := 6) (by omega)
  refine waveportlaw07_small_vc r V _ ⟨fun h => ?_, fun h => ?_⟩
  · simp only [decide_eq_true_eq] at h
    rw [i64w (n := 0 - Int.tmod r.den 6) (by omega) (by omega), i64w (by omega) (by omega)]
    have e : 0 - Int.tmod r.den 6 + 1 = (((Int.tmod r.den 6).natAbs + 1 : Nat) : Int) := by omega
    rw [e]; rfl
  · simp only [decide_eq_false_iff_not] at h
    rw [i64w (by omega) (by omega)]
    have e : Int.tmod r.den 6 + 1 = (((Int.tmod r.den 6).natAbs + 1 : Nat) : Int) := by omega
    rw [e]; rfl

def rnth (rs : List RatV) (i : Nat) : RatV := rs.getD i ⟨0, 0, 0⟩
def rfilled (n k : Nat) (f : Nat → RatV) : List RatV := (List.range k).map f ++ List.replicate (n - k) ⟨0, 0, 0⟩
theorem rfilled_length {n k : Nat} (h : k ≤ n) (f : Nat → RatV) : (rfilled n k f).length = n := by simp [rfilled]; omega
theorem rfilled_set {n k : Nat} (h : k < n) (f : Nat → RatV) : (rfilled n k f).set k (f k) = rfilled n (k + 1) f := by
  unfold rfilled
  rw [List.set_append_right _ _ (by simp)]
  simp only [List.length_map, List.length_range, Nat.sub_self]
  have : n - k = (n - (k + 1)) + 1 := by omega
  rw [this, List.replicate_succ, List.set_cons_zero, List.range_succ, List.map_append]; simp

theorem conjugates_spec {V : View} {s : Sl} {zs : List Cq} (h : NumsAt V s zs) (hn : zs.length ≤ 2 ^ 32) :
    CallV Tryz.prog n_transform_conjugates_num_Num_ #[s.v] V fun v V' => ∃ r : Sl, v = r.v ∧ NumsAt V' r (conjF zs) := by
  have hl := h.len
  refine transform_conjugates_num_Num__vc s V _ (fun _ x V' => 0 ≤ x.t10 ∧ x.t10 ≤ s.len ∧ NumsIn V' x.o7 (filled s.len x.t10.toNat fun i => (nth zs i).conj)) (fun _ x _ => s.len - x.t10.toNat)
    ⟨⟨by omega, by omega, by omega, by omega⟩, ⟨Int.le_refl 0, Int.natCast_nonneg _, ?_⟩, ?_⟩
  · rw [Int.toNat_natCast]
    show NumsIn V _ (filled s.len 0 _)
    rw [filled_zero]; exact NumsIn.zeros _ _
  rintro ⟨t, o⟩ V1 l1 ⟨h0, h1, ho⟩
  dsimp only at h0 h1 ho ⊢
  rw [Int.toNat_natCast]
  refine ⟨fun hlt => ?_, fun hge => ?_⟩
  · simp only [decide_eq_true_eq] at hlt
    obtain ⟨hb, x, hx, hs, hnx⟩ := (h.le l1).get h0 (by omega)
    refine ⟨hb, x, hx, hs, (Num_Conj_spec hnx).mono fun v V2 l2 ⟨r, hv, hr⟩ => ⟨r, hv, ⟨h0, hlt⟩, Cells.room ho (by rw [filled_length (by omega)]; omega), ?_⟩⟩
    have e : IntKind.i64.wrap (t + 1) = t + 1 := i64w (by omega) (by omega)
    have e2 : (t + 1).toNat = t.toNat + 1 := by omega
    rw [e]
    refine ⟨⟨by omega, by omega, ?_⟩, by omega⟩
    rw [e2, ← filled_set (by omega)]
    exact (ho.le l2).set (by rw [filled_length (by omega)]; omega) hr
  · simp only [decide_eq_false_iff_not] at hge
    intro b V3 l3 hb
    have e : t.toNat = s.len := by omega
    rw [e, filled_all] at ho
    refine ⟨_, rfl, ListAt.of_made (zs := conjF zs) hb ?_ (by simp [conjF, hl])⟩
    unfold conjF
    rw [← hl]; exact ho.le l3

theorem of_spec {V : View} {p q : Int} (p0 : -9223372036854775808 ≤ p) (p1 : p ≤ 9223372036854775807) (q0 : -9223372036854775808 ≤ q) (q1 : q ≤ 9223372036854775807) (hq : q ≠ 0) :
    CallV Tryz.prog n_transform_of_num_Num_ #[.int .i64 p, .int .i64 q] V fun v V' => ∃ r : NumV, v = r.val ∧ NumAt V' r ⟨(p : Rat) / (q : Rat), ((0 : Int) : Rat) / (q : Rat)⟩ := by
  refine transform_of_num_Num__vc p q V _ ((num_New_spec p0 p1 (by omega) (by omega) q0 q1 hq).mono fun v V1 l1 ⟨r, hv, hr⟩ => ⟨r, 0, hv, ?_⟩)
  exact (Num_Of_spec hr).mono fun v V2 l2 ⟨r3, hv, h3⟩ => ⟨r3, hv, r3, rfl, h3⟩

theorem shares_spec {V : View} {l : List Value} {zs : List Cq} {c : Nat} (h : NumsIn V l zs) (h1 : 1 ≤ zs.length) (hn : zs.length ≤ 64) (hS : ∀ i, i < zs.length → (nth zs i).sz ≤ 2 ^ 39) :
    CallDS Tryz.prog n_transform_shares_num_Num_ (fun b => (Value.slice (some ⟨b, 0, none⟩) zs.length c :: [] : List Value)) TN_num_Num l V fun l' V' => NumsIn V' l' (sharesF zs) := by
  refine transform_shares_num_Num__vc 0 zs.length c l V _ (fun _ x V' => 0 ≤ x.t10 ∧ x.t10 ≤ zs.length ∧ NumsIn V' x.o0 (patch zs.length x.t10.toNat (fun i => nth zs i * partQ zs.length) (nth zs))) (fun _ x _ => zs.length - x.t10.toNat) ?_
  refine (of_spec (p := 1) (q := (zs.length : Int)) (by omega) (by omega) (by omega) (by omega) (by omega)).mono fun v V1 l1 ⟨r1, hv, hr1⟩ => ⟨r1, hv, ⟨Int.le_refl 0, Int.natCast_nonneg _, ?_⟩, ?_⟩
  · show NumsIn V1 l (patch zs.length 0 _ _)
    rw [patch_zero]; exact h.le l1
  rintro ⟨t, o⟩ V2 l2 ⟨h0, ht, ho⟩
  dsimp only at h0 ht ho ⊢
  refine ⟨fun hlt => ?_, fun hge => ?_⟩
  · simp only [decide_eq_true_eq] at hlt
    have hk : t.toNat < zs.length := by omega
    obtain ⟨x, hx, hnx⟩ := ho.cut (i := t.toNat) (by rw [patch_length]; exact hk)
    rw [patch_nth hk (Nat.le_refl _)] at hnx
    have hs := partQ_sz h1 hn
    refine ⟨⟨h0, hlt⟩, x, hx, (Num_Mul_spec hnx (hr1.le l2) (by have := hS _ hk; omega) (by show (partQ zs.length).sz ≤ _; omega)).mono fun v V3 l3 ⟨r2, hv, hr2⟩ => ⟨r2, hv, ⟨h0, hlt⟩, Cells.room ho (by rw [patch_length]; exact hk), ?_⟩⟩
    have e : IntKind.i64.wrap (t + 1) = t + 1 := i64w (by omega) (by omega)
    have e2 : (t + 1).toNat = t.toNat + 1 := by omega
    rw [e]
    refine ⟨⟨by omega, by omega, ?_⟩, by omega⟩
    rw [e2, ← patch_set hk]
    exact (ho.le l3).set (by rw [patch_length]; exact hk) hr2
  · simp only [decide_eq_false_iff_not] at hge
    have e : t.toNat = zs.length := by omega
    rw [e, patch_all] at ho
    exact ⟨⟨rfl, rfl, rfl⟩, ho⟩

end Go.Proofs.YtcapadojlaojkaaGreat

namespace Go.Proofs.YtcapadojlaojkaaGreat
open Go Go.Vc Go.Proofs

theorem lenB_pow : ∀ m ∈ List.range 7, lenB (2 ^ m) = true := by decide

theorem FastBack_spec {V : View} {p w : Sl} {m : Nat} {zs ws : List Cq} (S T : Nat) (hm : m ≤ 6) (hz : zs.length = 2 ^ m) (hw : ws.length = 2 ^ m) (hp : NumsAt V p zs) (hq : NumsAt V w ws)
    (hS : ∀ i, i < 2 ^ m → (nth zs i).sz ≤ S) (hT : ∀ i, i < 2 ^ m → (nth ws i).sz ≤ T) (hsz : 64 * (S + T + 2) ≤ 2 ^ 39) :
    CallV Tryz.prog n_transform_FastBack_num_Num_ #[p.v, w.v] V fun v V' => ∃ r : Sl, v = .tuple #[r.v, .int .i64 0] ∧ NumsAt V' r (sharesF (stageF m zs (conjF ws))) := by
  have hl : lenB (2 ^ m) = true := lenB_pow m (by simp; omega)
  have hb := lenB_le hl
  have hpl := hp.len
  have hwl := hq.len
  refine transform_FastBack_num_Num__vc p w V _ ((transform_fits_spec p w).mono fun v V1 l1 hv => ⟨_, hv, fun h => ?_, fun _ => ?_⟩)
  · exfalso
    rw [hwl, hw, hl, hpl, hz] at h; simp at h
  refine (conjugates_spec (hq.le l1) (by omega)).mono fun v V2 l2 ⟨r2, hv, h2⟩ => ⟨r2, hv, ?_⟩
  have hcl : (conjF ws).length = 2 ^ m := by rw [conjF_length, hw]
  have hT2 := conjF_sz ws T (by rw [hw]; exact hT)
  rw [hw] at hT2
  have hfs := stageF_sz m zs (conjF ws) S T hz hcl hS hT2
  have hmul : 2 ^ m * (S + T + 2) ≤ 64 * (S + T + 2) := Nat.mul_le_mul_right _ hb.2
  refine (transform_stage_owned m S T hm hz hcl (hp.le (View.le_trans l1 l2)) h2 hS hT2 (by omega)).mono fun n c l rest V3 l3 ⟨hn, hc, hr, hin⟩ => ⟨hr, ?_⟩
  have hfl := stageF_length m zs (conjF ws)
  have hlne : l ≠ [] := by
    intro e; subst e
    have := Cells.length hin
    rw [hfl] at this
    simp at this; omega
  refine ⟨⟨by omega, hlne⟩, ?_⟩
  subst hn
  refine (shares_spec (c := c) hin (by omega) (by omega) (by rw [hfl]; intro i hi; have := hfs i hi; omega)).mono fun l2' V4 l4 h4 => ?_
  intro b V5 l5 hb5
  refine ⟨_, rfl, ?_⟩
  rw [hc]
  exact ListAt.of_made hb5 (h4.le l5) (by rw [sharesF_length])

end Go.Proofs.YtcapadojlaojkaaGreat

namespace Go.Proofs.YtcapadojlaojkaaGreat
open Go Go.Vc Go.Proofs

def boolC (_ : View) (x : List Value) (b : Bool) : Prop := x = [.bool b]
theorem boolC_mk (V : View) (b : Bool) : boolC V [.bool b] b := rfl
def BoolsAt (V : View) (s : Sl) (bs : List Bool) : Prop := ListAt 1 boolC V s bs
theorem BoolsAt.le {V V' : View} (hle : V.le V') {s : Sl} {bs : List Bool} (h : BoolsAt V s bs) : BoolsAt V' s bs := ListAt.le (P := boolC) (V := V) (V' := V') (fun _ _ h => h) hle h
theorem bool_load {V : View} {p : Option Addr} {v : Value} (h : V.has p [v]) : V.load p = some v := by
  have := h 0 v rfl
  cases p with
  | none => exact this
  | some a => simpa [Addr.add] using this

theorem within_spec {V : View} {g : GateV} {n : Nat} (hg : gateOk g n) (hn : n ≤ 64) :
    CallV Tryz.prog n_transform_within #[g.val, .int .i64 (n : Int)] V fun v V' => ∃ r : Sl, v = r.v ∧ BoolsAt V' r (gList n g.from_.toNat g.count.toNat) := by
  obtain ⟨h1, h2, h3, h4⟩ := hg
  have hf : g.from_.toNat < n := by omega
  refine transform_within_vc g (n : Int) V _ (fun _ x V' => 0 ≤ x.t11 ∧ x.t11 ≤ g.count ∧ Cells 1 boolC V' x.o8 (gList n g.from_.toNat x.t11.toNat)) (fun _ x _ => (g.count - x.t11).toNat) ⟨⟨by omega, by omega, by omega, by omega⟩, ⟨Int.le_refl 0, h3, ?_⟩, ?_⟩
  · rw [Int.toNat_natCast]
    show Cells 1 boolC V _ (gList n g.from_.toNat 0)
    rw [gList_zero]
    exact Cells.replicate rfl (boolC_mk V false) n
  rintro ⟨t, o⟩ V1 l1 ⟨h0, ht, hin⟩
  dsimp only at h0 ht hin ⊢
  rw [Int.toNat_natCast]
  refine ⟨fun hlt => ?_, fun hge => ?_⟩
  · simp only [decide_eq_true_eq] at hlt
    have e1 : IntKind.i64.wrap (t + 1) = t + 1 := i64w (by omega) (by omega)
    have e2 : (t + 1).toNat = t.toNat + 1 := by omega
    have e3 : Int.tmod (IntKind.i64.wrap (g.from_ + t)) (n : Int) = (((g.from_.toNat + t.toNat) % n : Nat) : Int) := by
      rw [i64w (by omega) (by omega), Int.tmod_eq_emod_of_nonneg (by omega)]
      have : g.from_ + t = ((g.from_.toNat + t.toNat : Nat) : Int) := by omega
      rw [this]; rfl
    have hm : (g.from_.toNat + t.toNat) % n < n := Nat.mod_lt _ (by omega)
    rw [e3, e1, Int.toNat_natCast]
    have hgl : (gList n g.from_.toNat t.toNat).length = n := by simp [gList]
    refine ⟨by omega, ⟨by omega, by omega⟩, Cells.room hin (by rw [hgl]; exact hm), ⟨by omega, by omega, ?_⟩, by omega⟩
    rw [e2, ← gList_set hf (by omega)]
    exact Cells.set0 hin (by rw [hgl]; exact hm) rfl (boolC_mk V1 true)
  · simp only [decide_eq_false_iff_not] at hge
    intro b V2 l2 hb
    have e : t = g.count := by omega
    rw [e] at hin
    exact ⟨_, rfl, ListAt.of_made hb (Cells.imp (P := boolC) (V := V1) (P' := boolC) (V' := V2) (fun _ _ h => h) hin) (by simp [gList])⟩

theorem Cut_spec {V : View} {s : Sl} {g : GateV} {zs : List Cq} (h : NumsAt V s zs) (hl : lenB zs.length = true) (hg : gateOk g zs.length) :
    CallV Tryz.prog n_transform_Cut_num_Num_ #[s.v, g.val] V fun v V' => ∃ r : Sl, v = .tuple #[r.v, .int .i64 0] ∧ NumsAt V' r (cutF zs (inG zs.length g.from_.toNat g.count.toNat)) := by
  have hb := lenB_le hl
  have hsl := h.len
  let f : Nat → Cq := fun k => if inG zs.length g.from_.toNat g.count.toNat k = true then nth zs k else Cq.zero
  refine transform_Cut_num_Num__vc s g V _ (fun _ x V' => 0 ≤ x.t25 ∧ x.t25 ≤ zs.length ∧ NumsIn V' x.o19 (filled zs.length x.t25.toNat f)) (fun _ x _ => zs.length - x.t25.toNat) ?_
  rw [hsl]
  refine (transform_valid_ok hl hg).mono fun v V1 l1 hv => ⟨_, hv, fun h => absurd h (by simp), fun _ => ⟨⟨by omega, by omega, by omega, by omega⟩, ?_⟩⟩
  refine (within_spec hg hb.2).mono fun v V2 l2 ⟨r2, hv, h2⟩ => ⟨r2, hv, ⟨Int.le_refl 0, Int.natCast_nonneg _, ?_⟩, ?_⟩
  · rw [Int.toNat_natCast]
    show NumsIn V2 _ (filled zs.length 0 f)
    rw [filled_zero]; exact NumsIn.zeros _ _
  have hl2 : r2.len = zs.length := by have := h2.len; simpa [gList] using this
  rintro ⟨t, o⟩ V3 l3 ⟨h0, ht, ho⟩
  dsimp only at h0 ht ho ⊢
  rw [Int.toNat_natCast, hl2]
  refine ⟨fun hlt => ?_, fun hge => ?_⟩
  · simp only [decide_eq_true_eq] at hlt
    have hk : t.toNat < zs.length := by omega
    have hfl : (filled zs.length t.toNat f).length = zs.length := filled_length (by omega) _
    have e1 : IntKind.i64.wrap (t + 1) = t + 1 := i64w (by omega) (by omega)
    have e2 : (t + 1).toNat = t.toNat + 1 := by omega
    obtain ⟨hb3, x, hx, _, hh, _⟩ := ListAt.get (h2.le l3) h0 (z := inG zs.length g.from_.toNat g.count.toNat t.toNat) (by simp [gList, hk])
    rw [hl2] at hb3
    refine ⟨hb3, inG zs.length g.from_.toNat g.count.toNat t.toNat, bool_load (by rw [show x = _ from hx] at hh; exact hh), ?_⟩
    refine (of_spec (p := 0) (q := 1) (by decide) (by decide) (by decide) (by decide) (by decide)).mono fun v V4 l4 ⟨r3, hv, h3⟩ => ⟨r3, hv, ⟨h0, hlt⟩, Cells.room ho (by rw [hfl]; exact hk), fun hin => ?_, fun hin => ?_⟩
    · obtain ⟨hb4, x4, hx4, hs4, hn4⟩ := (h.le (View.le_trans l1 (View.le_trans l2 (View.le_trans l3 l4)))).get h0 hk
      rw [hsl] at hb4
      have s1 := (ho.le l4).set (i := t.toNat) (by rw [hfl]; exact hk) h3
      have s2 := s1.set (i := t.toNat) (by rw [List.length_set, hfl]; exact hk) hn4
      rw [List.set_set] at s2
      have ef : nth zs t.toNat = f t.toNat := by simp only [f]; rw [if_pos hin]
      rw [ef, filled_set hk] at s2
      rw [e1]
      exact ⟨hb4, x4, hx4, hs4, ⟨h0, hlt⟩, Cells.room s1 (by rw [List.length_set, hfl]; exact hk), ⟨by omega, by omega, by rw [e2]; exact s2⟩, by omega⟩
    · have s1 := (ho.le l4).set (i := t.toNat) (by rw [hfl]; exact hk) h3
      have e0 : (⟨((0 : Int) : Rat) / ((1 : Int) : Rat), ((0 : Int) : Rat) / ((1 : Int) : Rat)⟩ : Cq) = Cq.zero := Cq.ext' (by simp [Rat.div_def]; rfl) (by simp [Rat.div_def]; rfl)
      have ef : Cq.zero = f t.toNat := by simp only [f]; rw [if_neg (by rw [hin]; simp)]
      rw [e0, ef, filled_set hk] at s1
      rw [e1]
      exact ⟨⟨by omega, by omega, by rw [e2]; exact s1⟩, by omega⟩
  · simp only [decide_eq_false_iff_not] at hge
    intro b V5 l5 hb5
    have e : t.toNat = zs.length := by omega
    rw [e, filled_all] at ho
    exact ⟨_, rfl, ListAt.of_made (zs := cutF zs (inG zs.length g.from_.toNat g.count.toNat)) hb5 (ho.le l5) (by rw [cutF_length])⟩

end Go.Proofs.YtcapadojlaojkaaGreat

namespace Go.Proofs.YtcapadojlaojkaaGreat
open Go Go.Vc Go.Proofs

theorem fd32 (z : Nat) : Int.fdiv (z : Int) (2 ^ (min (Int.toNat 32) (IntKind.u64.bits))) = ((z / 4294967296 : Nat) : Int) := by
  have e2 : (2 : Int) ^ (min (Int.toNat 32) (IntKind.u64.bits)) = 4294967296 := by decide
  rw [e2, Int.fdiv_eq_ediv_of_nonneg _ (by omega)]; omega
theorem fd63 (z : Nat) : Int.fdiv (z : Int) (2 ^ (min (Int.toNat 63) (IntKind.u64.bits))) = ((z / 9223372036854775808 : Nat) : Int) := by
  have e2 : (2 : Int) ^ (min (Int.toNat 63) (IntKind.u64.bits)) = 9223372036854775808 := by decide
  rw [e2, Int.fdiv_eq_ediv_of_nonneg _ (by omega)]; omega
theorem u32n (z : Nat) : IntKind.u32.wrap (z : Int) = ((z % 4294967296 : Nat) : Int) := by rw [u32m]; omega
theorem u64n {z : Nat} (h : z < 18446744073709551616) : IntKind.u64.wrap (z : Int) = (z : Int) := u64w (by omega) (by omega)
theorem addr_same (c : Prop) [Decidable c] (a : Option Addr) : (if c then a else Option.map (fun q => Addr.add q (Int.toNat 0 * 1)) a) = a := by
  have e : (fun q : Addr => Addr.add q (Int.toNat 0 * 1)) = id := by funext q; simp [Addr.add]
  rw [e]; simp

theorem ref1_trim_spec {V : View} {s : Sl} {l : List Nat} (h : Words V s l) (hs : l.length ≤ 2 ^ 50) :
    CallV Tryz.prog n_ref1_trim #[s.v] V fun v V' => ∃ r : Sl, v = r.v ∧ NatAt V' r (wval l) := by
  have hlen := h.len
  refine ref1_trim_vc s V _ (fun _ x _ => 0 ≤ x.t3 ∧ x.t3 ≤ s.len ∧ ∀ d ∈ l.drop x.t3.toNat, d = 0) (fun _ x _ => x.t3.toNat) ⟨⟨Int.natCast_nonneg _, Int.le_refl _, ?_⟩, ?_⟩
  · intro d hd
    simp only [Int.toNat_natCast, hlen, List.drop_length] at hd
    simp at hd
  rintro ⟨t⟩ V1 hle ⟨h0, h1, h2⟩
  simp only at h0 h1 h2 ⊢
  have hcap := h.cap
  -- what is handed back
  have out : t = 0 ∨ l.getD (t.toNat - 1) 0 ≠ 0 → NatAt V1 (Sl.mk (if s.cap = Int.toNat 0 then s.a else Option.map (fun q => Addr.add q (Int.toNat 0 * 1)) s.a) (Int.toNat t - Int.toNat 0) (s.cap - Int.toNat 0)) (wval l) := by
    intro hz
    have hw : wval l = wval (l.take t.toNat) := by
      rw [wval_drop l t.toNat, wval_zero_of h2]; omega
    rw [hw, addr_same]
    refine Words.nat ⟨?_, ?_, ?_, h.wb.take _⟩ ?_
    · intro i d hi
      have hi' : i < t.toNat := by
        rcases Nat.lt_or_ge i t.toNat with h | h
        · exact h
        · rw [List.getElem?_eq_none (by simp; omega)] at hi; simp at hi
      rw [List.getElem?_take_of_lt hi'] at hi
      exact View.load_le hle (h.load i d hi)
    · simp; omega
    · simp only [Int.toNat_zero]; omega
    · intro d hd
      rcases hz with rfl | hz
      · simp at hd
      · have h3 : t.toNat ≠ 0 := by
          intro e; rw [e] at hd; simp at hd
        rw [List.getLast?_eq_getElem?] at hd
        have h4 : (l.take t.toNat).length = t.toNat := by simp; omega
        rw [h4, List.getElem?_take_of_lt (by omega)] at hd
        simp only [List.getD, hd, Option.getD_some] at hz
        exact hz
  refine ⟨fun hp => ?_, fun hp => ⟨by simp, fun _ => ⟨⟨by omega, by omega, by omega⟩, _, rfl, out (.inl ?_)⟩⟩⟩
  · simp only [decide_eq_true_eq] at hp
    rw [i64w (by omega) (by omega)]
    refine ⟨⟨by omega, by omega, h.isSome (by omega)⟩, _, (h.le hle).get (by omega) (by omega), fun hz => ?_, fun hz => ⟨⟨by omega, by omega, by omega⟩, _, rfl, out (.inr ?_)⟩⟩
    · simp only [beq_iff_eq] at hz
      refine ⟨⟨by omega, by omega, fun d hd => ?_⟩, by omega⟩
      have hlt : (t - 1).toNat < l.length := by omega
      rw [List.drop_eq_getElem_cons hlt] at hd
      rcases List.mem_cons.1 hd with rfl | hd
      · simp only [List.getD, List.getElem?_eq_getElem hlt, Option.getD_some] at hz; omega
      · exact h2 d (by rw [show (t - 1).toNat + 1 = t.toNat by omega] at hd; exact hd)
    · simp only [beq_eq_false_iff_ne, ne_eq] at hz
      rw [show t.toNat - 1 = (t - 1).toNat by omega]
      intro e; rw [e] at hz; exact hz rfl
  · simp only [decide_eq_false_iff_not] at hp; omega

theorem ref1_NatOf_spec {V : View} {n : Int} (h0 : 0 ≤ n) (h1 : n ≤ 18446744073709551615) :
    CallV Tryz.prog n_ref1_NatOf #[.int .u64 n] V fun v V' => ∃ r : Sl, v = r.v ∧ NatAt V' r n.toNat := by
  refine ref1_NatOf_vc n V _ fun b V1 hle _ hb => ?_
  obtain ⟨m, rfl⟩ : ∃ m : Nat, n = m := ⟨n.toNat, by omega⟩
  rw [fd32, u32n, u32n, Nat.mod_eq_of_lt (show m / 4294967296 < 4294967296 by omega)] at hb
  have hw : Words V1 (Sl.mk (some (Addr.mk b 0 none)) 2 2) [m % 4294967296, m / 4294967296] :=
    Words.of_block (by rw [hb]; rfl) rfl (by omega) (by intro d hd; simp at hd; omega)
  refine (ref1_trim_spec hw (by simp)).mono fun v V' _ ⟨r, hv, hr⟩ => ⟨r, hv, _, rfl, ?_⟩
  have : wval [m % 4294967296, m / 4294967296] = (m : Int).toNat := by simp [wval]; omega
  rw [this] at hr; exact hr

theorem ref1_NatCmp_spec {V : View} {s t : Sl} {a b : Nat} (hs : NatAt V s a) (ht : NatAt V t b) (hb : wn a ≤ 2 ^ 50) :
    CallV Tryz.prog n_ref1_NatCmp #[s.v, t.v] V fun v _ => v = .int .i64 (if a < b then -1 else if a = b then 0 else 1) := by
  have h1 := hs.len
  have h2 := ht.len
  simp only [wn] at hb
  refine ref1_NatCmp_vc s t V _ (fun _ x _ => -1 ≤ x.t5 ∧ x.t5 < s.len ∧ (dig a).drop (x.t5 + 1).toNat = (dig b).drop (x.t5 + 1).toNat) (fun _ x _ => (x.t5 + 1).toNat) ⟨fun hne => ⟨fun hlt => ?_, fun hlt => ?_⟩, fun he => ⟨?_, ?_⟩⟩
  · have := dig_len_lt (a := a) (b := b) (by simpa [h1, h2] using hlt)
    simp [this]
  · have hne : ¬ (s.len : Int) = t.len := by simpa using hne
    have hlt : ¬ s.len < t.len := by simpa using hlt
    have := dig_len_lt (a := b) (b := a) (by omega)
    rw [if_neg (by omega), if_neg (by omega)]
  · have he : (s.len : Int) = t.len := by simpa using he
    rw [i64w (by omega) (by omega)]
    refine ⟨?_, ?_, ?_⟩
    · show (-1 : Int) ≤ s.len - 1; omega
    · show (s.len : Int) - 1 < s.len; omega
    · rw [List.drop_eq_nil_of_le, List.drop_eq_nil_of_le] <;> simp <;> omega
  · have he : (s.len : Int) = t.len := by simpa using he
    rintro ⟨i⟩ V1 hle ⟨i0, i1, hd⟩
    simp only at i0 i1 hd ⊢
    refine ⟨fun hp => ?_, fun hp => ?_⟩
    · simp only [ge_iff_le, decide_eq_true_eq] at hp
      refine ⟨⟨by omega, by omega, hs.isSome (by omega)⟩, _, (hs.le hle).get (by omega) (by omega), ⟨by omega, by omega, ht.isSome (by omega)⟩, _, (ht.le hle).get (by omega) (by omega), fun hne =>
        ⟨⟨by omega, by omega, hs.isSome (by omega)⟩, _, (hs.le hle).get (by omega) (by omega), ⟨by omega, by omega, ht.isSome (by omega)⟩, _, (ht.le hle).get (by omega) (by omega), fun hlt => ?_, fun hge => ?_⟩, fun heq => ?_⟩
      · have hlt : (dig a).getD i.toNat 0 < (dig b).getD i.toNat 0 := by simpa using hlt
        have := wval_lt_of (WB_dig a) (by omega) (i := i.toNat) (by omega) (by rw [show i.toNat + 1 = (i + 1).toNat by omega]; exact hd) hlt
        rw [wval_dig, wval_dig] at this
        simp [this]
      · have hne : ¬ (dig a).getD i.toNat 0 = (dig b).getD i.toNat 0 := by
          intro e; rw [e] at hne; simp at hne
        have hge : ¬ (dig a).getD i.toNat 0 < (dig b).getD i.toNat 0 := by simpa using hge
        have := wval_lt_of (WB_dig b) (by omega) (i := i.toNat) (by omega) (by rw [show i.toNat + 1 = (i + 1).toNat by omega]; exact hd.symm) (by omega : (dig b).getD i.toNat 0 < (dig a).getD i.toNat 0)
        rw [wval_dig, wval_dig] at this
        rw [if_neg (by omega), if_neg (by omega)]
      · have heq : (((dig a).getD i.toNat 0 : Nat) : Int) = (((dig b).getD i.toNat 0 : Nat) : Int) := by simpa using heq
        rw [i64w (by omega) (by omega)]
        refine ⟨⟨by show (-1 : Int) ≤ i - 1; omega, by show i - 1 < (s.len : Int); omega, ?_⟩, by show (i - 1 + 1).toNat < (i + 1).toNat; omega⟩
        have e : (i - 1 + 1).toNat = i.toNat := by omega
        show (dig a).drop (i - 1 + 1).toNat = (dig b).drop (i - 1 + 1).toNat
        rw [e, List.drop_eq_getElem_cons (by omega : i.toNat < (dig a).length), List.drop_eq_getElem_cons (by omega : i.toNat < (dig b).length)]
        have e2 : i.toNat + 1 = (i + 1).toNat := by omega
        rw [e2, hd]
        congr 1
        simp only [List.getD, List.getElem?_eq_getElem (by omega : i.toNat < (dig a).length), List.getElem?_eq_getElem (by omega : i.toNat < (dig b).length), Option.getD_some] at heq
        omega
    · simp only [ge_iff_le, decide_eq_false_iff_not] at hp
      have e : (i + 1).toNat = 0 := by omega
      rw [e] at hd
      have := dig_inj (by simpa using hd)
      subst this
      simp

theorem ref1_NatAdd_spec {V : View} {s t : Sl} {a b : Nat} (hs : NatAt V s a) (ht : NatAt V t b) (ha : wn a ≤ 2 ^ 45) (hb : wn b ≤ 2 ^ 45) :
    CallV Tryz.prog n_ref1_NatAdd #[s.v, t.v] V fun v V' => ∃ r : Sl, v = r.v ∧ NatAt V' r (a + b) := by
  refine ref1_NatAdd_vc s t V _ (fun _ x V' => ∃ a' b', NatAt V' x.t0 a' ∧ NatAt V' x.t1 b' ∧ a' + b' = a + b ∧ wn a' ≤ 2 ^ 45 ∧ x.t1.len ≤ x.t0.len)
    (fun c x V' => ∃ a' b' l k, NatAt V' c.t0 a' ∧ NatAt V' c.t1 b' ∧ a' + b' = a + b ∧ c.t1.len ≤ c.t0.len ∧ x.o19 = wv l ∧ WB l ∧ l.length = c.t0.len + 1 ∧ x.t6 = (k : Nat) ∧ k ≤ 1 ∧ 0 ≤ x.t7 ∧ x.t7 ≤ c.t0.len ∧
      wval (l.take x.t7.toNat) + k * 4294967296 ^ x.t7.toNat = wval ((dig a').take x.t7.toNat) + wval ((dig b').take x.t7.toNat))
    (fun c x _ => (c.t0.len - x.t7).toNat) ⟨⟨fun h => ⟨b, a, ht, hs, by omega, hb, ?_⟩, fun h => ⟨a, b, hs, ht, rfl, ha, ?_⟩⟩, ?_⟩
  · have : s.len < t.len := by simpa using h
    exact Nat.le_of_lt this
  · have : ¬ s.len < t.len := by simpa using h
    exact Nat.le_of_not_lt this
  rintro ⟨x, y⟩ V1 hle ⟨a', b', hx, hy, hab, hwa, hlen⟩
  simp only at hx hy hlen ⊢
  have hxl := hx.len
  have hyl := hy.len
  simp only [wn] at hwa
  rw [i64w (n := (x.len : Int) + 1) (by omega) (by omega)]
  refine ⟨⟨by omega, by omega, by omega, by omega⟩, ⟨a', b', List.replicate (x.len + 1) 0, 0, hx, hy, hab, hlen, ?_, WB.zeros _, by simp, rfl, by omega, Int.le_refl _, by show (0 : Int) ≤ x.len; omega, by simp [wval]⟩, ?_⟩
  · show (List.replicate (Int.toNat ((x.len : Int) + 1)) [Value.int .u32 0]).flatten = _
    rw [show Int.toNat ((x.len : Int) + 1) = x.len + 1 by omega, wv_zeros]
  rintro ⟨k, i, o⟩ V2 hle2 ⟨a2, b2, l, k', hx2, hy2, hab2, _, ho, hwb, hl, hk, hk1, hi0, hi1, hval⟩
  simp only at ho hk hi0 hi1 hval hx2 hy2 hl ⊢
  obtain rfl := hx2.inj (hx.le hle2)
  obtain rfl := hy2.inj (hy.le hle2)
  subst hk
  refine ⟨fun hp => ?_, fun hp => ?_⟩
  · simp only [decide_eq_true_eq] at hp
    -- one more word, whatever stands there in the shorter one
    have step : ∀ (z : Nat), z = (dig a2).getD i.toNat 0 + (dig b2).getD i.toNat 0 + k' → z < 8589934592 →
        (∃ a' b' l k, NatAt V2 x a' ∧ NatAt V2 y b' ∧ a' + b' = a + b ∧ y.len ≤ x.len ∧ List.set o (0 + Int.toNat i * 1) (.int .u32 ((z % 4294967296 : Nat) : Int)) = wv l ∧ WB l ∧ l.length = x.len + 1 ∧ ((z / 4294967296 : Nat) : Int) = (k : Nat) ∧ k ≤ 1 ∧ 0 ≤ i + 1 ∧ i + 1 ≤ x.len ∧
          wval (l.take (i + 1).toNat) + k * 4294967296 ^ (i + 1).toNat = wval ((dig a').take (i + 1).toNat) + wval ((dig b').take (i + 1).toNat)) := by
      intro z hz hlt
      refine ⟨a2, b2, l.set i.toNat (z % 4294967296), z / 4294967296, hx2, hy2, hab, hlen, ?_, hwb.set (by omega), by simpa using hl, rfl, by omega, by omega, by omega, ?_⟩
      · rw [ho, show 0 + Int.toNat i * 1 = i.toNat by omega, wv_set]
      · rw [show (i + 1).toNat = i.toNat + 1 by omega, wval_take_set (by omega), wval_take_succ, wval_take_succ, Nat.pow_succ]
        have hrc : z % 4294967296 + z / 4294967296 * 4294967296 = (dig a2).getD i.toNat 0 + (dig b2).getD i.toNat 0 + k' := by omega
        have := congrArg (· * 4294967296 ^ i.toNat) hrc
        simp only [Nat.add_mul] at this
        grind
    have w1 := hx2.getD_lt i.toNat
    have w2 := hy2.getD_lt i.toNat
    rw [i64w (n := i + 1) (by omega) (by omega)]
    refine ⟨⟨by omega, by omega, hx.isSome (by omega)⟩, _, hx2.get (by omega) (by omega), fun hp2 => ?_, fun hp2 => ?_⟩
    · simp only [decide_eq_true_eq] at hp2
      refine ⟨⟨by omega, by omega, hy.isSome (by omega)⟩, _, hy2.get (by omega) (by omega), ⟨by omega, by omega⟩, by rw [ho, wv_length]; omega, ?_⟩
      rw [u64n (z := (dig a2).getD i.toNat 0) (by omega), u64n (z := (dig b2).getD i.toNat 0) (by omega), ← Int.natCast_add, u64n (by omega), ← Int.natCast_add, u64n (by omega), fd32, u32n]
      have g := step ((dig a2).getD i.toNat 0 + k' + (dig b2).getD i.toNat 0) (by omega) (by omega)
      exact ⟨g, by show ((x.len : Int) - (i + 1)).toNat < ((x.len : Int) - i).toNat; omega⟩
    · simp only [decide_eq_false_iff_not] at hp2
      have w2 : (dig b2).getD i.toNat 0 = 0 := by simp only [List.getD]; rw [List.getElem?_eq_none (by omega)]; rfl
      refine ⟨⟨by omega, by omega⟩, by rw [ho, wv_length]; omega, ?_⟩
      rw [u64n (z := (dig a2).getD i.toNat 0) (by omega), ← Int.natCast_add, u64n (by omega), fd32, u32n]
      have g := step ((dig a2).getD i.toNat 0 + k') (by omega) (by omega)
      exact ⟨g, by show ((x.len : Int) - (i + 1)).toNat < ((x.len : Int) - i).toNat; omega⟩
  · simp only [decide_eq_false_iff_not] at hp
    refine ⟨⟨by omega, by omega⟩, by rw [ho, wv_length]; omega, fun b1 V5 hle5 hb => ?_⟩
    have hi : i.toNat = x.len := by omega
    have ek : IntKind.u32.wrap (k' : Int) = (k' : Int) := u32w (by omega) (by omega)
    have hw : Words V5 (Sl.mk (some (Addr.mk b1 0 none)) (Int.toNat ((x.len : Int) + 1)) (Int.toNat ((x.len : Int) + 1))) (l.set x.len k') :=
      Words.of_block (by rw [hb, ho, show 0 + Int.toNat (x.len : Int) * 1 = x.len by omega, ek, wv_set]) (by simp; omega) (Nat.le_refl _) (hwb.set (by omega))
    refine (ref1_trim_spec hw (by simp; omega)).mono fun v V6 _ ⟨r, hv, hr⟩ => ⟨r, hv, r, rfl, ?_⟩
    have e : wval (l.set x.len k') = a + b := by
      have h1 : (l.set x.len k') = (l.set x.len k').take (x.len + 1) := by rw [List.take_of_length_le]; simp; omega
      rw [h1, wval_take_set (by omega)]
      rw [hi, wval_take_all (l := dig a2) (by omega), wval_take_all (l := dig b2) (by omega), wval_dig, wval_dig] at hval
      omega
    rw [e] at hr; exact hr

/-- One word of a difference, computed with 64 bits. -/
theorem sub64 {A B k : Nat} (hA : A < 4294967296) (hB : B < 4294967296) (hk : k ≤ 1) :
    ∃ r c : Nat, Int.fdiv (IntKind.u64.wrap ((IntKind.u64.wrap ((A : Int) - (k : Int))) - (B : Int))) (2 ^ (min (Int.toNat 63) (IntKind.u64.bits))) = (c : Int) ∧
      IntKind.u32.wrap (IntKind.u64.wrap ((IntKind.u64.wrap ((A : Int) - (k : Int))) - (B : Int))) = (r : Int) ∧ r + B + k = A + c * 4294967296 ∧ r < 4294967296 ∧ c ≤ 1 := by
  have e : IntKind.u64.wrap ((IntKind.u64.wrap ((A : Int) - (k : Int))) - (B : Int)) = (((A : Int) - k - B) % 18446744073709551616) := by
    rw [u64m, u64m]; omega
  rw [e]
  obtain ⟨m, hm⟩ : ∃ m : Nat, ((A : Int) - k - B) % 18446744073709551616 = m := ⟨(((A : Int) - k - B) % 18446744073709551616).toNat, by omega⟩
  rw [hm, fd63, u32n]
  exact ⟨m % 4294967296, m / 9223372036854775808, rfl, rfl, by omega, by omega, by omega⟩

theorem ref1_NatSub_spec {V : View} {s t : Sl} {a b : Nat} (hs : NatAt V s a) (ht : NatAt V t b) (ha : wn a ≤ 2 ^ 45) (hba : b ≤ a) :
    CallV Tryz.prog n_ref1_NatSub #[s.v, t.v] V fun v V' => ∃ r : Sl, v = r.v ∧ NatAt V' r (a - b) := by
  have hsl := hs.len
  have htl := ht.len
  have hwn := wn_mono hba
  simp only [wn] at ha hwn
  refine ref1_NatSub_vc s t V _
    (fun _ x V' => ∃ l k : _, x.o11 = wv l ∧ WB l ∧ l.length = s.len ∧ x.t6 = (k : Nat) ∧ k ≤ 1 ∧ 0 ≤ x.t7 ∧ x.t7 ≤ s.len ∧
      wval (l.take x.t7.toNat) + wval ((dig b).take x.t7.toNat) = wval ((dig a).take x.t7.toNat) + k * 4294967296 ^ x.t7.toNat)
    (fun _ x _ => (s.len - x.t7).toNat) ⟨⟨by omega, by omega, by omega, by omega⟩, ⟨List.replicate s.len 0, 0, ?_, WB.zeros _, by simp, rfl, by omega, Int.le_refl _, by show (0 : Int) ≤ s.len; omega, by simp [wval]⟩, ?_⟩
  · show (List.replicate (Int.toNat (s.len : Int)) [Value.int .u32 0]).flatten = _
    rw [Int.toNat_natCast, wv_zeros]
  rintro ⟨k, i, o⟩ V2 hle2 ⟨l, k', ho, hwb, hl, hk, hk1, hi0, hi1, hval⟩
  simp only at ho hk hi0 hi1 hval hl ⊢
  subst hk
  have hx2 := hs.le hle2
  have hy2 := ht.le hle2
  refine ⟨fun hp => ?_, fun hp => ?_⟩
  · simp only [decide_eq_true_eq] at hp
    have step : ∀ (r c : Nat), r + (dig b).getD i.toNat 0 + k' = (dig a).getD i.toNat 0 + c * 4294967296 → r < 4294967296 → c ≤ 1 →
        (∃ l k : _, List.set o (0 + Int.toNat i * 1) (.int .u32 (r : Nat)) = wv l ∧ WB l ∧ l.length = s.len ∧ (c : Int) = (k : Nat) ∧ k ≤ 1 ∧ 0 ≤ i + 1 ∧ i + 1 ≤ s.len ∧
          wval (l.take (i + 1).toNat) + wval ((dig b).take (i + 1).toNat) = wval ((dig a).take (i + 1).toNat) + k * 4294967296 ^ (i + 1).toNat) := by
      intro r c hrc hr hc
      refine ⟨l.set i.toNat r, c, ?_, hwb.set hr, by simpa using hl, rfl, hc, by omega, by omega, ?_⟩
      · rw [ho, show 0 + Int.toNat i * 1 = i.toNat by omega, wv_set]
      · rw [show (i + 1).toNat = i.toNat + 1 by omega, wval_take_set (by omega), wval_take_succ, wval_take_succ, Nat.pow_succ]
        have := congrArg (· * 4294967296 ^ i.toNat) hrc
        simp only [Nat.add_mul] at this
        grind
    have w1 := hx2.getD_lt i.toNat
    have w2 := hy2.getD_lt i.toNat
    rw [i64w (n := i + 1) (by omega) (by omega)]
    refine ⟨⟨by omega, by omega, hs.isSome (by omega)⟩, _, hx2.get (by omega) (by omega), fun hp2 => ?_, fun hp2 => ?_⟩
    · simp only [decide_eq_true_eq] at hp2
      refine ⟨⟨by omega, by omega, ht.isSome (by omega)⟩, _, hy2.get (by omega) (by omega), ⟨by omega, by omega⟩, by rw [ho, wv_length]; omega, ?_⟩
      obtain ⟨r, c, e1, e2, e3, e4, e5⟩ := sub64 w1 w2 hk1
      rw [u64n (z := (dig a).getD i.toNat 0) (by omega), u64n (z := (dig b).getD i.toNat 0) (by omega), e1, e2]
      exact ⟨step r c e3 e4 e5, by show ((s.len : Int) - (i + 1)).toNat < ((s.len : Int) - i).toNat; omega⟩
    · simp only [decide_eq_false_iff_not] at hp2
      have w2 : (dig b).getD i.toNat 0 = 0 := by simp only [List.getD]; rw [List.getElem?_eq_none (by omega)]; rfl
      refine ⟨⟨by omega, by omega⟩, by rw [ho, wv_length]; omega, ?_⟩
      obtain ⟨r, c, e1, e2, e3, e4, e5⟩ := sub64 w1 (show 0 < 4294967296 by omega) hk1
      have e0 : IntKind.u64.wrap ((IntKind.u64.wrap ((((dig a).getD i.toNat 0 : Nat) : Int) - (k' : Int))) - ((0 : Nat) : Int)) = IntKind.u64.wrap ((((dig a).getD i.toNat 0 : Nat) : Int) - (k' : Int)) := by
        rw [u64m, u64m]; omega
      rw [e0] at e1 e2
      rw [u64n (z := (dig a).getD i.toNat 0) (by omega), e1, e2]
      exact ⟨step r c (by omega) e4 e5, by show ((s.len : Int) - (i + 1)).toNat < ((s.len : Int) - i).toNat; omega⟩
  · simp only [decide_eq_false_iff_not] at hp
    intro b1 V5 hle5 hb
    have hi : i.toNat = s.len := by omega
    have hw : Words V5 (Sl.mk (some (Addr.mk b1 0 none)) (Int.toNat (s.len : Int)) (Int.toNat (s.len : Int))) l :=
      Words.of_block (by rw [hb, ho]) (by omega) (Nat.le_refl _) hwb
    refine (ref1_trim_spec hw (by omega)).mono fun v V6 _ ⟨r, hv, hr⟩ => ⟨r, hv, r, rfl, ?_⟩
    rw [hi, wval_take_all (l := dig a) (by omega), wval_take_all (l := dig b) (by omega), wval_take_all (by omega), wval_dig, wval_dig] at hval
    have h3 := wval_lt hwb
    have e : wval l = a - b := by
      rcases Nat.eq_zero_or_pos k' with h0 | h0
      · subst h0; omega
      · have : k' = 1 := by omega
        subst this
        rw [hl] at h3
        omega
    rw [e] at hr; exact hr

theorem ref1_mul_word {a b : Nat} (ha : a < 4294967296) (hb : b < 4294967296) : a * b ≤ 18446744065119617025 :=
  Nat.le_trans (Nat.mul_le_mul (Nat.le_of_lt_succ ha) (Nat.le_of_lt_succ hb)) (by decide)

theorem ref1_NatMul_spec {V : View} {s t : Sl} {a b : Nat} (hs : NatAt V s a) (ht : NatAt V t b) (ha : wn a ≤ 2 ^ 44) (hb : wn b ≤ 2 ^ 44) :
    CallV Tryz.prog n_ref1_NatMul #[s.v, t.v] V fun v V' => ∃ r : Sl, v = r.v ∧ NatAt V' r (a * b) := by
  have hsl := hs.len
  have htl := ht.len
  simp only [wn] at ha hb
  refine ref1_NatMul_vc s t V _
    (fun _ x _ => ∃ i l, x = L_ref1_NatMul_0.mk (i : Nat) (wv l) ∧ i ≤ s.len ∧ WB l ∧ l.length = s.len + t.len ∧ seg l 0 (i + t.len) = wval ((dig a).take i) * b)
    (fun _ x _ => (s.len - x.t6).toNat)
    (fun c x _ => ∃ i k cr l, c = C_ref1_NatMul_1.mk (i : Nat) ∧ i < s.len ∧ x = L_ref1_NatMul_1.mk (cr : Nat) (k : Nat) (wv l) ∧ WB l ∧ l.length = s.len + t.len ∧ k ≤ t.len ∧ cr < 4294967296 ∧
      seg l 0 (i + t.len) + cr * 4294967296 ^ (i + k) = wval ((dig a).take i) * b + (dig a).getD i 0 * wval ((dig b).take k) * 4294967296 ^ i)
    (fun _ x _ => (t.len - x.t8).toNat) ?_
  rw [i64w (n := (s.len : Int) + t.len) (by omega) (by omega)]
  have hn : Int.toNat ((s.len : Int) + t.len) = s.len + t.len := by omega
  rw [hn]
  refine ⟨⟨by omega, by omega, by omega, by omega⟩, ⟨0, List.replicate (s.len + t.len) 0, ?_, by omega, WB.zeros _, by simp, ?_⟩, ?_⟩
  · rw [wv_zeros]; rfl
  · rw [seg_rep]; simp [wval]
  rintro _ V2 hle2 ⟨i, l, rfl, hi, hwb, hl, hval⟩
  refine ⟨fun hp => ?_, fun hp b1 V4 hle4 hb1 => ?_⟩
  · simp only [decide_eq_true_eq] at hp
    refine ⟨⟨i, 0, 0, l, rfl, by omega, rfl, hwb, hl, by omega, by omega, by simp [hval, wval]⟩, ?_⟩
    rintro _ V3 hle3 ⟨i', k, cr, l', hc, hi', rfl, hwb', hl', hk, hcr, hval'⟩
    obtain rfl : i = i' := by simp only [C_ref1_NatMul_1.mk.injEq] at hc; omega
    have hbd := (WB_dig a).getD i
    simp only [Int.toNat_natCast]
    refine ⟨fun hq => ?_, fun hq => ?_⟩
    · simp only [decide_eq_true_eq] at hq
      have hbk := (WB_dig b).getD k
      have hwl := hwb'.getD (i + k)
      have hm := ref1_mul_word hbd hbk
      have hik : i + k < l'.length := by omega
      rw [i64w (n := (i : Int) + k) (by omega) (by omega), i64w (n := (k : Int) + 1) (by omega) (by omega)]
      have e1 : Int.toNat ((i : Int) + k) = i + k := by omega
      rw [e1]
      refine ⟨⟨by omega, hp, hs.isSome (by omega)⟩, _, (hs.le (View.le_trans hle2 hle3)).get (by show (0 : Int) ≤ (i : Nat); omega) hp, ⟨by omega, hq, ht.isSome (by omega)⟩, _, (ht.le (View.le_trans hle2 hle3)).get (by show (0 : Int) ≤ (k : Nat); omega) hq, ⟨by omega, by omega⟩, ((l'.getD (i + k) 0 : Nat) : Int), ?_, ⟨by omega, by omega⟩, ?_, ?_⟩
      · rw [show 0 + (i + k) * 1 = i + k by omega]; exact wv_get hik
      · rw [wv_length]; omega
      simp only [Int.toNat_natCast]
      rw [u64n (z := (dig a).getD i 0) (by omega), u64n (z := (dig b).getD k 0) (by omega), u64n (z := l'.getD (i + k) 0) (by omega), ← Int.natCast_mul, u64n (z := (dig a).getD i 0 * (dig b).getD k 0) (by omega), ← Int.natCast_add,
        u64n (z := (dig a).getD i 0 * (dig b).getD k 0 + l'.getD (i + k) 0) (by omega), ← Int.natCast_add, u64n (by omega), fd32, u32n, show 0 + (i + k) * 1 = i + k by omega]
      generalize hm' : (dig a).getD i 0 * (dig b).getD k 0 = m at *
      generalize hd : m + l'.getD (i + k) 0 + cr = z
      rw [wv_set]
      refine ⟨⟨i, k + 1, z / 4294967296, l'.set (i + k) (z % 4294967296), rfl, by omega, by simp, hwb'.set (by omega), by simpa using hl', by omega, by omega, ?_⟩, by show ((t.len : Int) - ((k : Int) + 1)).toNat < ((t.len : Int) - k).toNat; omega⟩
      have h1 := seg_set (l := l') (p := i + k) (d := z % 4294967296) (j := 0) (k := i + t.len) (by omega) (by omega) hik
      rw [Nat.sub_zero] at h1
      rw [wval_take_succ, ← Nat.add_assoc, Nat.pow_succ]
      have h2 : z % 4294967296 + z / 4294967296 * 4294967296 = z := by omega
      have h3 := congrArg (· * 4294967296 ^ (i + k)) h2
      rw [← hd] at h3
      simp only [Nat.add_mul] at h3
      have h4 : (dig a).getD i 0 * ((dig b).getD k 0 * 4294967296 ^ k) * 4294967296 ^ i = m * 4294967296 ^ (i + k) := by rw [← hm', Nat.pow_add]; grind
      rw [← hd] at h1
      rw [Nat.mul_add, Nat.add_mul, h4, ← hd]
      have h5 : ∀ q, q * (4294967296 ^ (i + k) * 4294967296) = q * 4294967296 * 4294967296 ^ (i + k) := by intro q; grind
      rw [h5]
      omega
    · simp only [decide_eq_false_iff_not] at hq
      have hkt : k = t.len := by omega
      subst hkt
      rw [i64w (n := (i : Int) + t.len) (by omega) (by omega), i64w (n := (i : Int) + 1) (by omega) (by omega)]
      have e1 : Int.toNat ((i : Int) + t.len) = i + t.len := by omega
      rw [e1, show 0 + (i + t.len) * 1 = i + t.len by omega, u32w (by omega) (by omega), wv_set, wv_length]
      refine ⟨⟨by omega, by omega⟩, by omega, ⟨i + 1, l'.set (i + t.len) cr, by simp, by omega, hwb'.set hcr, by simpa using hl', ?_⟩, by show ((s.len : Int) - ((i : Int) + 1)).toNat < ((s.len : Int) - i).toNat; omega⟩
      rw [show i + 1 + t.len = i + t.len + 1 by omega, seg_set_last (by omega) (by omega), hval', wval_take_succ, wval_take_all (l := dig b) (by omega), wval_dig]
      grind
  · simp only [decide_eq_false_iff_not] at hp
    have hi' : i = s.len := by omega
    subst hi'
    rw [seg_all (by omega), wval_take_all (l := dig a) (by omega), wval_dig] at hval
    have hw : Words V4 (Sl.mk (some (Addr.mk b1 0 none)) (s.len + t.len) (s.len + t.len)) l := Words.of_block hb1 (by omega) (Nat.le_refl _) hwb
    refine (ref1_trim_spec hw (by omega)).mono fun v V6 _ ⟨r, hv, hr⟩ => ⟨r, hv, r, rfl, ?_⟩
    rw [hval] at hr; exact hr

end Go.Proofs.YtcapadojlaojkaaGreat

namespace Go.Proofs.YtcapadojlaojkaaGreat
open Go Go.Vc Go.Proofs

theorem ref1_natDigit_spec {V : View} {s : Sl} {a d : Nat} (hs : NatAt V s a) (ha : wn a ≤ 2 ^ 45) (hd0 : 0 < d) (hd : d < 4294967296) :
    CallV Tryz.prog n_ref1_natDigit #[s.v, .int .u32 (d : Int)] V fun v V' => ∃ r : Sl, v = .tuple #[r.v, .int .u32 ((a % d : Nat) : Int)] ∧ NatAt V' r (a / d) := by
  have hsl := hs.len
  simp only [wn] at ha
  refine ref1_natDigit_vc s d V _
    (fun _ x _ => ∃ (j k rest : Nat) (l : List Nat), x = L_ref1_natDigit_0.mk (rest : Nat) ((j : Int) - 1) (wv l) ∧ j + k = s.len ∧ WB l ∧ l.length = s.len ∧ rest < d ∧ seg (dig a) j k = seg l j k * d + rest)
    (fun _ x _ => (x.t8 + 1).toNat) ⟨⟨by omega, by omega, by omega, by omega⟩, ⟨s.len, 0, 0, List.replicate s.len 0, ?_, by omega, WB.zeros _, by simp, hd0, by simp [seg_zero]⟩, ?_⟩
  · rw [i64w (by omega) (by omega), Int.toNat_natCast, wv_zeros]; rfl
  rintro _ V1 hle ⟨j, k, rest, l, rfl, hjk, hwb, hl, hr, hval⟩
  refine ⟨fun hp => ?_, fun hp b1 V3 hle3 hb1 => ?_⟩
  · simp only [ge_iff_le, decide_eq_true_eq] at hp
    obtain ⟨i, rfl⟩ : ∃ i, j = i + 1 := ⟨j - 1, by omega⟩
    simp only [show (((i + 1 : Nat) : Int) - 1) = (i : Nat) by omega, Int.toNat_natCast]
    have hw := (WB_dig a).getD i
    have h1 : (rest * 4294967296 + (dig a).getD i 0) / d < 4294967296 := by
      rw [Nat.div_lt_iff_lt_mul (by omega)]
      have := Nat.mul_le_mul_right 4294967296 (Nat.succ_le_of_lt hr)
      rw [Nat.succ_mul] at this
      omega
    have h2 : (rest * 4294967296 + (dig a).getD i 0) % d < d := Nat.mod_lt _ (by omega)
    have e : (2 : Int) ^ (min (Int.toNat 32) (IntKind.u64.bits)) = 4294967296 := by decide
    refine ⟨⟨by omega, by omega, hs.isSome (by omega)⟩, _, (hs.le hle).get (i := (i : Nat)) (by omega) (by omega), ?_⟩
    simp only [Int.toNat_natCast]
    rw [u64n (z := d) (by omega), u64n (z := (dig a).getD i 0) (by omega), e, show (rest : Int) * 4294967296 = ((rest * 4294967296 : Nat) : Int) by omega, u64n (z := rest * 4294967296) (by omega), or64 hw (by omega),
      u64n (z := rest * 4294967296 + (dig a).getD i 0) (by omega), ← Int.ofNat_tdiv, ← Int.ofNat_tmod, u64n (by omega), u32n, Nat.mod_eq_of_lt h1, i64w (by omega) (by omega), show 0 + i * 1 = i by omega, wv_set]
    refine ⟨by omega, ⟨by omega, by omega⟩, by rw [wv_length]; omega, by omega, ⟨i, k + 1, _, _, rfl, by omega, hwb.set h1, by simpa using hl, Nat.mod_lt _ hd0, ?_⟩, by show ((i : Int) - 1 + 1).toNat < ((i : Int) + 1).toNat; omega⟩
    rw [Nat.add_comm k 1, seg_split, seg_split _ i 1 k, hval, seg_set_out (j := i + 1) (by omega), seg_succ, seg_succ, seg_zero, seg_zero, Nat.add_zero, getD_set, if_pos ⟨rfl, by omega⟩]
    have := Nat.div_add_mod (rest * 4294967296 + (dig a).getD i 0) d
    generalize (rest * 4294967296 + (dig a).getD i 0) / d = q at *
    generalize (rest * 4294967296 + (dig a).getD i 0) % d = m at *
    simp only [Nat.pow_zero, Nat.mul_one, Nat.pow_one, Nat.zero_add, Nat.mul_add, Nat.add_mul]
    have e2 : 4294967296 * (seg l (i + 1) k * d) = 4294967296 * seg l (i + 1) k * d := by rw [Nat.mul_assoc]
    have e3 : q * d = d * q := Nat.mul_comm _ _
    omega
  · simp only [ge_iff_le, decide_eq_false_iff_not] at hp
    have hj : j = 0 := by omega
    subst hj
    have hk : k = s.len := by omega
    subst hk
    have hw : Words V3 (Sl.mk (some (Addr.mk b1 0 none)) (Int.toNat (s.len : Int)) (Int.toNat (s.len : Int))) l := Words.of_block hb1 (by omega) (Nat.le_refl _) hwb
    rw [seg_all (by omega), seg_all (by omega), wval_dig] at hval
    have e1 : a / d = wval l := by rw [hval, Nat.mul_comm, Nat.mul_add_div hd0, Nat.div_eq_of_lt hr]; omega
    have e2 : a % d = rest := by rw [hval, Nat.mul_comm, Nat.mul_add_mod, Nat.mod_eq_of_lt hr]
    refine (ref1_trim_spec hw (by omega)).mono fun v V6 _ ⟨r, hv, hr⟩ => ⟨r, hv, r, ?_, ?_⟩
    · rw [e2, u32n, Nat.mod_eq_of_lt (by omega)]
    · rw [e1]; exact hr

theorem bl_half {x : Nat} (h : x ≠ 0) : bl x = bl (x / 2) + 1 := by
  by_cases h1 : x = 1
  · subst h1; decide
  · have := bl_div (m := x) 1 (by omega)
    simpa using this
theorem ref1_NatBits_spec {V : View} {s : Sl} {a : Nat} (hs : NatAt V s a) (ha : wn a ≤ 2 ^ 45) :
    CallV Tryz.prog n_ref1_NatBits #[s.v] V fun v _ => v = .int .i64 (bl a : Nat) := by
  have hsl := hs.len
  have hwn : wn a = s.len := by simp only [wn]; exact hsl.symm
  refine ref1_NatBits_vc s V _ (fun _ x _ => ∃ k y : Nat, x = L_ref1_NatBits_0.mk (k : Nat) (y : Nat) ∧ k + bl y = bl ((dig a).getD (wn a - 1) 0) ∧ k ≤ 32) (fun _ x _ => x.t4.toNat) ⟨fun h => ?_, fun h => ?_⟩
  · have h : (s.len : Int) = 0 := by simpa using h
    have : a = 0 := wn_eq_zero.1 (by omega)
    subst this; rfl
  · have h : ¬ (s.len : Int) = 0 := by simpa using h
    have ha0 : a ≠ 0 := by rintro rfl; rw [wn_zero] at hwn; omega
    rw [i64w (n := (s.len : Int) - 1) (by omega) (by omega)]
    have e : Int.toNat ((s.len : Int) - 1) = wn a - 1 := by omega
    have h2 := bl_wn ha0
    have h3 : bl ((dig a).getD (wn a - 1) 0) ≤ 32 := by
      have h3 := (top_bounds ha0).2.2
      have := bl_le h3
      have := (WB_dig a).getD (wn a - 1)
      have := (Nat.pow_lt_pow_iff_right (a := 2) (n := bl ((dig a).getD (wn a - 1) 0) - 1) (m := 32) (by omega)).1 (by omega)
      omega
    refine ⟨⟨by omega, by omega, hs.isSome (by omega)⟩, _, hs.get (by omega) (by omega), ⟨0, _, rfl, by rw [e]; omega, by omega⟩, ?_⟩
    rintro _ V1 l1 ⟨k, y, rfl, hk, hk2⟩
    refine ⟨fun hp => ?_, fun hp => ?_⟩
    · simp only [gt_iff_lt, decide_eq_true_eq] at hp
      have hb := bl_half (x := y) (by omega)
      have e1 : Int.fdiv (y : Int) (2 ^ (min (Int.toNat 1) (IntKind.u32.bits))) = ((y / 2 : Nat) : Int) := by
        have e2 : (2 : Int) ^ (min (Int.toNat 1) (IntKind.u32.bits)) = 2 := by decide
        rw [e2, Int.fdiv_eq_ediv_of_nonneg _ (by omega)]; omega
      simp only []
      rw [e1, i64w (by omega) (by omega)]
      exact ⟨⟨k + 1, y / 2, rfl, by omega, by omega⟩, by show ((y / 2 : Nat) : Int).toNat < (y : Int).toNat; omega⟩
    · simp only [gt_iff_lt, decide_eq_false_iff_not] at hp
      have hy : y = 0 := by omega
      subst hy
      rw [bl_zero] at hk
      simp only []
      rw [i64w (n := 32 * _) (by omega) (by omega), i64w (by omega) (by omega)]
      congr 1
      omega

theorem ref1_NatShl_spec {V : View} {s : Sl} {a n : Nat} (hs : NatAt V s a) (ha : wn a ≤ 2 ^ 44) (hn : n ≤ 2 ^ 44) :
    CallV Tryz.prog n_ref1_NatShl #[s.v, .int .i64 (n : Int)] V fun v V' => ∃ r : Sl, v = r.v ∧ NatAt V' r (a * 2 ^ n) := by
  have hsl := hs.len
  have hs0 : s.len = 0 → a = 0 := fun h => wn_eq_zero.1 (by simp only [wn]; omega)
  simp only [wn] at ha
  obtain ⟨W, hW⟩ : ∃ W, W = n / 32 := ⟨_, rfl⟩
  obtain ⟨R, hR⟩ : ∃ R, R = 2 ^ (n % 32) := ⟨_, rfl⟩
  have hR1 : R ≤ 2147483648 := by rw [hR]; exact Nat.pow_le_pow_right (by omega) (show n % 32 ≤ 31 by omega)
  obtain ⟨Q, hQ⟩ : ∃ Q, R * Q = 4294967296 := ⟨2 ^ (32 - n % 32), by rw [hR, ← Nat.pow_add, show n % 32 + (32 - n % 32) = 32 by omega]⟩
  refine ref1_NatShl_vc s n V _
    (fun _ x _ => ∃ (i : Nat) (l : List Nat), x = L_ref1_NatShl_0.mk (i : Nat) (wv l) ∧ i ≤ s.len ∧ WB l ∧ l.length = s.len + W + 1 ∧ seg l 0 (i + W + 1) = wval ((dig a).take i) * R * 4294967296 ^ W ∧ l.getD (i + W) 0 < R)
    (fun _ x _ => (s.len - x.t6).toNat)
    ⟨fun h => ⟨_, rfl, by have h : (s.len : Int) = 0 := (by simpa using h); have := hs0 (by omega); subst this; rw [Nat.zero_mul]; exact NatAt.zero V⟩, fun _ => ?_⟩
  rw [td32, tm32, ← hW, i64w (n := (W : Int)) (by omega) (by omega), i64w (n := (s.len : Int) + W) (by omega) (by omega), i64w (n := (s.len : Int) + W + 1) (by omega) (by omega),
    u64w (n := ((n % 32 : Nat) : Int)) (by omega) (by omega), Int.toNat_natCast, shp64 (show n % 32 ≤ 64 by omega), ← hR]
  have hN : Int.toNat ((s.len : Int) + W + 1) = s.len + W + 1 := by omega
  rw [hN]
  refine ⟨⟨by omega, by omega, by omega, by omega⟩, ⟨0, List.replicate (s.len + W + 1) 0, ?_, by omega, WB.zeros _, by simp, ?_, ?_⟩, ?_⟩
  · rw [wv_zeros]; rfl
  · rw [seg_rep]; simp [wval]
  · have : (List.replicate (s.len + W + 1) 0).getD (0 + W) 0 = 0 := by simp only [List.getD, List.getElem?_replicate]; split <;> rfl
    rw [this, hR]; exact Nat.two_pow_pos _
  rintro _ V2 hle2 ⟨i, l, rfl, hi, hwb, hl, hval, hlt⟩
  refine ⟨fun hp => ?_, fun hp b1 V4 hle4 hb1 => ?_⟩
  · simp only [decide_eq_true_eq] at hp
    have hai := (WB_dig a).getD i
    have hW2 := hwb.getD (i + W)
    simp only [Int.toNat_natCast]
    rw [i64w (n := (i : Int) + W) (by omega) (by omega), i64w (n := (i : Int) + W + 1) (by omega) (by omega), i64w (n := (i : Int) + 1) (by omega) (by omega)]
    have e1 : Int.toNat ((i : Int) + W) = i + W := by omega
    have e2 : Int.toNat ((i : Int) + W + 1) = i + W + 1 := by omega
    rw [e1, e2, show 0 + (i + W) * 1 = i + W by omega, show 0 + (i + W + 1) * 1 = i + W + 1 by omega]
    refine ⟨⟨by omega, hp, hs.isSome (by omega)⟩, _, (hs.le hle2).get (i := (i : Nat)) (by omega) hp, by omega, ⟨by omega, by omega⟩, ((l.getD (i + W) 0 : Nat) : Int), wv_get (by omega), ⟨by omega, by omega⟩, by rw [wv_length]; omega, ⟨by omega, by omega⟩, by simp only [List.length_set, wv_length]; omega, ?_⟩
    simp only [Int.toNat_natCast]
    generalize hA : (dig a).getD i 0 = A at *
    have hm : A * R ≤ 4294967295 * 2147483648 := Nat.mul_le_mul (by omega) hR1
    rw [u64w (n := (A : Int)) (by omega) (by omega), ← Int.natCast_mul, u64w (n := ((A * R : Nat) : Int)) (by omega) (by omega)]
    have e3 : (2 : Int) ^ (min (Int.toNat 32) (IntKind.u64.bits)) = 4294967296 := by decide
    rw [e3, Int.fdiv_eq_ediv_of_nonneg _ (by omega)]
    have e4 : IntKind.u32.wrap (((A * R : Nat) : Int) / 4294967296) = ((A * R / 4294967296 : Nat) : Int) := by rw [u32w (by omega) (by omega)]; omega
    have e5 : IntKind.u32.wrap ((A * R : Nat) : Int) = ((A * R % 4294967296 : Nat) : Int) := by rw [u32m]; omega
    have e6 : A * R % 4294967296 = (A % Q) * R := by
      rw [← hQ, Nat.mul_comm A R, Nat.mul_mod_mul_left, Nat.mul_comm]
    have hhi : A * R / 4294967296 < R := by
      rw [Nat.div_lt_iff_lt_mul (by omega), Nat.mul_comm]
      exact Nat.mul_lt_mul_of_pos_left (by omega) (by rw [hR]; exact Nat.two_pow_pos _)
    have hlo : l.getD (i + W) 0 + A * R % 4294967296 < 4294967296 := by
      rw [e6]
      have h0 : 0 < Q := by
        rcases Nat.eq_zero_or_pos Q with h | h
        · subst h; simp at hQ
        · exact h
      have h1 : A % Q + 1 ≤ Q := Nat.mod_lt _ h0
      have h2 := Nat.mul_le_mul_right R h1
      rw [Nat.succ_mul, Nat.mul_comm Q R, hQ] at h2
      omega
    rw [e4, e5, or32v hW2 (Nat.mod_lt _ (by omega)), e6]
    have hor : (l.getD (i + W) 0 ||| A % Q * R) = l.getD (i + W) 0 + A % Q * R := by
      rw [hR] at hlt ⊢; exact orDisj hlt
    rw [hor, ← e6, u32w (by omega) (by omega), wv_set, wv_set]
    refine ⟨⟨i + 1, (l.set (i + W) (l.getD (i + W) 0 + A * R % 4294967296)).set (i + W + 1) (A * R / 4294967296), rfl, by omega, (hwb.set (by omega)).set (by omega), by simpa using hl, ?_, ?_⟩, by show ((s.len : Int) - ((i : Int) + 1)).toNat < ((s.len : Int) - i).toNat; omega⟩
    · rw [show i + 1 + W + 1 = (i + W + 1) + 1 by omega, seg_set_last (by omega) (by simp; omega)]
      have h1 := seg_set (l := l) (p := i + W) (d := l.getD (i + W) 0 + A * R % 4294967296) (j := 0) (k := i + W + 1) (by omega) (by omega) (by omega)
      rw [Nat.sub_zero, hval] at h1
      rw [wval_take_succ, hA, Nat.pow_succ]
      have h2 : A * R % 4294967296 + A * R / 4294967296 * 4294967296 = A * R := by omega
      have h3 := congrArg (· * 4294967296 ^ (i + W)) h2
      simp only [Nat.add_mul] at h1 h3 ⊢
      have h4 : A * 4294967296 ^ i * R * 4294967296 ^ W = A * R * 4294967296 ^ (i + W) := by rw [Nat.pow_add]; grind
      have h5 : ∀ q, q * (4294967296 ^ (i + W) * 4294967296) = q * 4294967296 * 4294967296 ^ (i + W) := by intro q; grind
      rw [h4, h5]
      omega
    · rw [getD_set, if_pos ⟨by omega, by simp; omega⟩]; exact hhi
  · simp only [decide_eq_false_iff_not] at hp
    have hi' : i = s.len := by omega
    subst hi'
    rw [seg_all (by omega), wval_take_all (l := dig a) (by omega), wval_dig] at hval
    have hw : Words V4 (Sl.mk (some (Addr.mk b1 0 none)) (s.len + W + 1) (s.len + W + 1)) l := Words.of_block hb1 (by omega) (Nat.le_refl _) hwb
    refine (ref1_trim_spec hw (by omega)).mono fun v V6 _ ⟨r, hv, hr⟩ => ⟨r, hv, r, rfl, ?_⟩
    rw [hval, Nat.mul_assoc, hR, hW, ← pow_words] at hr; exact hr

theorem ref1_NatShr_spec {V : View} {s : Sl} {a n : Nat} (hs : NatAt V s a) (ha : wn a ≤ 2 ^ 44) (hn : n ≤ 2 ^ 44) :
    CallV Tryz.prog n_ref1_NatShr #[s.v, .int .i64 (n : Int)] V fun v V' => ∃ r : Sl, v = r.v ∧ NatAt V' r (a / 2 ^ n) := by
  have hsl := hs.len
  have hwn : wn a = s.len := by simp only [wn]; exact hsl.symm
  have haw := lt_wn a
  rw [hwn] at ha haw
  obtain ⟨W, hW⟩ : ∃ W, W = n / 32 := ⟨_, rfl⟩
  obtain ⟨R, hR⟩ : ∃ R, R = 2 ^ (n % 32) := ⟨_, rfl⟩
  have hR0 : 0 < R := by rw [hR]; exact Nat.two_pow_pos _
  obtain ⟨Q, hQ⟩ : ∃ Q, R * Q = 4294967296 := ⟨2 ^ (32 - n % 32), by rw [hR, ← Nat.pow_add, show n % 32 + (32 - n % 32) = 32 by omega]⟩
  have hpow : 2 ^ n = 4294967296 ^ W * R := by rw [hR, hW, Nat.mul_comm, ← pow_words]
  refine ref1_NatShr_vc s n V _
    (fun _ x _ => ∃ (i : Nat) (l : List Nat), x = L_ref1_NatShr_0.mk (i : Nat) (wv l) ∧ i ≤ s.len - W ∧ WB l ∧ l.length = s.len - W ∧ seg l 0 i = a / 2 ^ n % 4294967296 ^ i)
    (fun _ x _ => (s.len - x.t6).toNat) ?_
  rw [td32, tm32, ← hW, i64w (n := (W : Int)) (by omega) (by omega)]
  refine ⟨fun h => ⟨_, rfl, ?_⟩, fun h => ?_⟩
  · simp only [ge_iff_le, decide_eq_true_eq] at h
    have : a / 2 ^ n = 0 := by
      refine Nat.div_eq_of_lt (Nat.lt_of_lt_of_le haw ?_)
      rw [hpow]
      have h1 : 4294967296 ^ s.len ≤ 4294967296 ^ W := Nat.pow_le_pow_right (by omega) (by omega)
      have := Nat.mul_le_mul_left (4294967296 ^ W) hR0
      omega
    rw [this]; exact NatAt.zero V
  simp only [ge_iff_le, decide_eq_false_iff_not] at h
  rw [i64w (n := (s.len : Int) - W) (by omega) (by omega), u64w (n := ((n % 32 : Nat) : Int)) (by omega) (by omega), Int.toNat_natCast, shp64 (show n % 32 ≤ 64 by omega), ← hR]
  have hN : Int.toNat ((s.len : Int) - W) = s.len - W := by omega
  rw [hN]
  refine ⟨⟨by omega, by omega, by omega, by omega⟩, ⟨0, List.replicate (s.len - W) 0, ?_, by omega, WB.zeros _, by simp, ?_⟩, ?_⟩
  · rw [wv_zeros]; rfl
  · simp [seg_zero, Nat.mod_one]
  rintro _ V2 hle2 ⟨i, l, rfl, hi, hwb, hl, hval⟩
  refine ⟨fun hp => ?_, fun hp b1 V4 hle4 hb1 => ?_⟩
  · simp only [decide_eq_true_eq] at hp
    simp only [Int.toNat_natCast]
    rw [i64w (n := (i : Int) + W) (by omega) (by omega), i64w (n := (i : Int) + W + 1) (by omega) (by omega), i64w (n := (i : Int) + 1) (by omega) (by omega)]
    have w1 := (WB_dig a).getD (W + i)
    have w2 := (WB_dig a).getD (W + i + 1)
    have e1 : Int.toNat ((i : Int) + W) = W + i := by omega
    have e2 : Int.toNat ((i : Int) + W + 1) = W + i + 1 := by omega
    have e3 : (2 : Int) ^ (min (Int.toNat 32) (IntKind.u64.bits)) = 4294967296 := by decide
    have word := shr_word (a := a) (W := W) (i := i) hQ hR0
    rw [← hpow] at word
    have step : ∀ z : Nat, z = (dig a).getD (W + i) 0 + 4294967296 * (dig a).getD (W + i + 1) 0 →
        (∃ (i' : Nat) (l' : List Nat), L_ref1_NatShr_0.mk ((i : Int) + 1) ((wv l).set (0 + i * 1) (.int .u32 (IntKind.u32.wrap (Int.fdiv (z : Int) (R : Nat))))) = L_ref1_NatShr_0.mk (i' : Nat) (wv l') ∧ i' ≤ s.len - W ∧ WB l' ∧ l'.length = s.len - W ∧ seg l' 0 i' = a / 2 ^ n % 4294967296 ^ i') := by
      intro z hz
      have ez : IntKind.u32.wrap (Int.fdiv (z : Int) (R : Nat)) = ((a / 2 ^ n / 4294967296 ^ i % 4294967296 : Nat) : Int) := by
        rw [Int.fdiv_eq_ediv_of_nonneg _ (by omega), u32m, ← word, ← hz]; rfl
      rw [ez, show 0 + i * 1 = i by omega, wv_set]
      refine ⟨i + 1, _, rfl, by omega, hwb.set (Nat.mod_lt _ (by omega)), by simpa using hl, ?_⟩
      rw [seg_set_last (by omega) (by omega), hval, Nat.pow_succ, Nat.mod_mul, Nat.mul_comm (4294967296 ^ i)]
    have hme : ((s.len : Int) - ((i : Int) + 1)).toNat < ((s.len : Int) - i).toNat := by omega
    have g1 := (hs.le hle2).get (i := (i : Int) + W) (by omega) (by omega)
    rw [e1] at g1 ⊢
    refine ⟨⟨by omega, by omega, hs.isSome (by omega)⟩, _, g1, fun hq => ?_, fun hq => ?_⟩
    · simp only [decide_eq_true_eq] at hq
      have g2 := (hs.le hle2).get (i := (i : Int) + W + 1) (by omega) (by omega)
      rw [e2] at g2 ⊢
      refine ⟨⟨by omega, by omega, hs.isSome (by omega)⟩, _, g2, by omega, ⟨by omega, by omega⟩, by rw [wv_length]; omega, ?_⟩
      rw [e3, u64w (n := (((dig a).getD (W + i) 0 : Nat) : Int)) (by omega) (by omega), u64w (n := (((dig a).getD (W + i + 1) 0 : Nat) : Int)) (by omega) (by omega), u64w (n := (((dig a).getD (W + i + 1) 0 : Nat) : Int) * 4294967296) (by omega) (by omega),
        show (((dig a).getD (W + i + 1) 0 : Nat) : Int) * 4294967296 = (((dig a).getD (W + i + 1) 0 * 4294967296 : Nat) : Int) by omega, or64' w1 w2, u64w (by omega) (by omega)]
      exact ⟨step _ (by omega), hme⟩
    · simp only [decide_eq_false_iff_not] at hq
      refine ⟨by omega, ⟨by omega, by omega⟩, by rw [wv_length]; omega, ?_⟩
      rw [u64w (n := (((dig a).getD (W + i) 0 : Nat) : Int)) (by omega) (by omega)]
      have h0 : (dig a).getD (W + i + 1) 0 = 0 := by simp only [List.getD]; rw [List.getElem?_eq_none (by omega)]; rfl
      exact ⟨step _ (by omega), hme⟩
  · simp only [decide_eq_false_iff_not] at hp
    have hi' : i = s.len - W := by omega
    subst hi'
    have hw : Words V4 (Sl.mk (some (Addr.mk b1 0 none)) (s.len - W) (s.len - W)) l := Words.of_block hb1 (by omega) (Nat.le_refl _) hwb
    refine (ref1_trim_spec hw (by omega)).mono fun v V6 _ ⟨r, hv, hr⟩ => ⟨r, hv, r, rfl, ?_⟩
    rw [seg_all (by omega)] at hval
    have hlt : a / 2 ^ n < 4294967296 ^ (s.len - W) := by
      rw [hpow, ← Nat.div_div_eq_div_mul]
      refine Nat.lt_of_le_of_lt (Nat.div_le_self _ _) ?_
      rw [Nat.div_lt_iff_lt_mul (Nat.pow_pos (by omega)), ← Nat.pow_add, show s.len - W + W = s.len by omega]
      exact haw
    rw [hval, Nat.mod_eq_of_lt hlt] at hr; exact hr

end Go.Proofs.YtcapadojlaojkaaGreat

namespace Go.Proofs.YtcapadojlaojkaaGreat
open Go Go.Vc Go.Proofs

theorem and32 (P : Nat) (h : P < 18446744073709551616) : BitVec.toNat ((BitVec.ofInt IntKind.u64.bits (P : Int)) &&& (BitVec.ofInt IntKind.u64.bits 4294967295)) = P % 4294967296 := by
  rw [BitVec.toNat_and]
  have e1 : (BitVec.ofInt IntKind.u64.bits (P : Int)).toNat = P := of64 h
  have e2 : (BitVec.ofInt IntKind.u64.bits 4294967295).toNat = 2 ^ 32 - 1 := by decide
  rw [e1, e2, Nat.and_two_pow_sub_one_eq_mod]

/-- The divisor's words are taken away, times the guess. -/
structure TakeI (X vN n m j g i cr bo : Nat) (u qd u0 : List Nat) : Prop where
  div : DivI X vN n m (j + 1) u0 qd
  n2 : 2 ≤ n
  nm : n ≤ m
  wn : wn vN = n
  g32 : g < 4294967296
  ge : seg u0 j (n + 1) / vN ≤ g
  gl : (g - 1) * vN ≤ seg u0 j (n + 1)
  i_le : i ≤ n
  wu : WB u
  lu : u.length = m
  cr32 : cr < 4294967296
  bo1 : bo ≤ 1
  out : ∀ p, p < j ∨ j + i ≤ p → u.getD p 0 = u0.getD p 0
  val : seg u j i + g * wval ((dig vN).take i) = seg u0 j i + (cr + bo) * 4294967296 ^ i
/-- The divisor is added back. -/
structure BackI (X vN n m j g k cr : Nat) (u qd u0 l' : List Nat) : Prop where
  div : DivI X vN n m (j + 1) u0 qd
  n2 : 2 ≤ n
  nm : n ≤ m
  wn : wn vN = n
  wl : WB l'
  ll : l'.length = m
  out : ∀ i, i < j ∨ j + n < i → l'.getD i 0 = u0.getD i 0
  eq : seg l' j (n + 1) + g * vN = seg u0 j (n + 1) + 4294967296 ^ (n + 1)
  g32 : g < 4294967296
  ge : seg u0 j (n + 1) / vN ≤ g
  gl : (g - 1) * vN ≤ seg u0 j (n + 1)
  k_le : k ≤ n
  cr1 : cr ≤ 1
  wu : WB u
  lu : u.length = m
  out2 : ∀ i, i < j ∨ j + k ≤ i → u.getD i 0 = l'.getD i 0
  val : seg u j k + cr * 4294967296 ^ k = seg l' j k + seg (dig vN) 0 k

theorem TakeI.jn {X vN n m j g i cr bo : Nat} {u qd u0 : List Nat} (h : TakeI X vN n m j g i cr bo u qd u0) : j + n < m := by
  have := h.div.jl
  have := h.nm
  omega
theorem BackI.jn {X vN n m j g i cr : Nat} {u qd u0 l' : List Nat} (h : BackI X vN n m j g i cr u qd u0 l') : j + n < m := by
  have := h.div.jl
  have := h.nm
  omega
theorem wn_pos {vN n : Nat} (h : wn vN = n) (hn : 2 ≤ n) : 0 < vN := by
  rcases Nat.eq_zero_or_pos vN with h0 | h0
  · subst h0; rw [wn_zero] at h; omega
  · exact h0

theorem TakeI.step {X vN n m j g i cr bo : Nat} {u qd u0 : List Nat} (h : TakeI X vN n m j g i cr bo u qd u0) (hi : i < n) :
    ∃ low br c : Nat, IntKind.u32.wrap (IntKind.u64.wrap ((IntKind.u64.wrap ((IntKind.u64.wrap ((u.getD (j + i) 0 : Nat) : Int)) - (IntKind.u64.wrap ((BitVec.toNat ((BitVec.ofInt IntKind.u64.bits (IntKind.u64.wrap ((IntKind.u64.wrap ((g : Int) * (IntKind.u64.wrap (((dig vN).getD i 0 : Nat) : Int)))) + (cr : Int)))) &&& (BitVec.ofInt IntKind.u64.bits 4294967295)) : Nat) : Int)))) - (bo : Int))) = (low : Int) ∧
      Int.fdiv (IntKind.u64.wrap ((IntKind.u64.wrap ((IntKind.u64.wrap ((u.getD (j + i) 0 : Nat) : Int)) - (IntKind.u64.wrap ((BitVec.toNat ((BitVec.ofInt IntKind.u64.bits (IntKind.u64.wrap ((IntKind.u64.wrap ((g : Int) * (IntKind.u64.wrap (((dig vN).getD i 0 : Nat) : Int)))) + (cr : Int)))) &&& (BitVec.ofInt IntKind.u64.bits 4294967295)) : Nat) : Int)))) - (bo : Int))) 9223372036854775808 = (br : Int) ∧
      Int.fdiv (IntKind.u64.wrap ((IntKind.u64.wrap ((g : Int) * (IntKind.u64.wrap (((dig vN).getD i 0 : Nat) : Int)))) + (cr : Int))) 4294967296 = (c : Int) ∧
      TakeI X vN n m j g (i + 1) c br (u.set (j + i) low) qd u0 := by
  have hjn := h.jn
  have hvi := (WB_dig vN).getD i
  have hui := h.wu.getD (j + i)
  have hlu := h.lu
  have hc := h.cr32
  have hm' := mul_word h.g32 hvi
  have hu0 : u0.getD (j + i) 0 = u.getD (j + i) 0 := (h.out (j + i) (by omega)).symm
  generalize hA : (dig vN).getD i 0 = A at *
  generalize hU : u.getD (j + i) 0 = U at *
  obtain ⟨P, hP⟩ : ∃ P, P = g * A + cr := ⟨_, rfl⟩
  rw [u64w (n := (A : Int)) (by omega) (by omega), ← Int.natCast_mul, u64w (n := ((g * A : Nat) : Int)) (by omega) (by omega), u64w (n := ((g * A : Nat) : Int) + cr) (by omega) (by omega),
    show ((g * A : Nat) : Int) + cr = (P : Nat) by omega, and32 P (by omega), u64w (n := ((P % 4294967296 : Nat) : Int)) (by omega) (by omega), u64w (n := (U : Int)) (by omega) (by omega), Int.fdiv_eq_ediv_of_nonneg (P : Int) (by omega),
    show (P : Int) / 4294967296 = ((P / 4294967296 : Nat) : Int) by omega]
  obtain ⟨low, br, h1, h2, h3, h4, h5⟩ := borrow_word hui (Nat.mod_lt P (by omega : 0 < 4294967296)) h.bo1
  refine ⟨low, br, _, h4, h5, rfl, h.div, h.n2, h.nm, h.wn, h.g32, h.ge, h.gl, hi, h.wu.set h1, by simpa using hlu, by omega, h2, ?_, ?_⟩
  · intro p hp
    rw [getD_set, if_neg (by omega)]; exact h.out p (by omega)
  · have hval := h.val
    rw [seg_set_last rfl (by omega), seg_succ, wval_take_succ, hA, hu0, Nat.pow_succ]
    have h6 : low + g * A + cr + bo = U + (P / 4294967296 + br) * 4294967296 := by
      have := Nat.div_add_mod P 4294967296
      omega
    have h7 := congrArg (· * 4294967296 ^ i) h6
    simp only [Nat.add_mul] at h7 hval ⊢
    have h8 : g * (wval (List.take i (dig vN)) + A * 4294967296 ^ i) = g * wval (List.take i (dig vN)) + g * A * 4294967296 ^ i := by rw [Nat.mul_add, Nat.mul_assoc]
    have h9 : ∀ z, z * (4294967296 ^ i * 4294967296) = z * 4294967296 * 4294967296 ^ i := by intro z; grind
    rw [h8, h9, h9]
    omega

theorem TakeI.last {X vN n m j g cr bo : Nat} {u qd u0 : List Nat} (h : TakeI X vN n m j g n cr bo u qd u0) :
    ∃ low br : Nat, IntKind.u32.wrap (IntKind.u64.wrap ((IntKind.u64.wrap ((IntKind.u64.wrap ((u.getD (j + n) 0 : Nat) : Int)) - (cr : Int))) - (bo : Int))) = (low : Int) ∧
      Int.fdiv (IntKind.u64.wrap ((IntKind.u64.wrap ((IntKind.u64.wrap ((u.getD (j + n) 0 : Nat) : Int)) - (cr : Int))) - (bo : Int))) 9223372036854775808 = (br : Int) ∧ (u.set (j + n) low).length = m ∧
      (br = 1 → BackI X vN n m j g 0 0 (u.set (j + n) low) qd u0 (u.set (j + n) low) ∧ 0 < g) ∧ (br ≠ 1 → DivI X vN n m j (u.set (j + n) low) (qd.set j g)) := by
  have hjn := h.jn
  have hui := h.wu.getD (j + n)
  have hlu := h.lu
  have hu0 : u0.getD (j + n) 0 = u.getD (j + n) 0 := (h.out (j + n) (by omega)).symm
  generalize hU : u.getD (j + n) 0 = U at *
  obtain ⟨low, br, h1, h2, h3, h4, h5⟩ := borrow_word hui h.cr32 h.bo1
  rw [u64w (n := (U : Int)) (by omega) (by omega)]
  refine ⟨low, br, h4, h5, ?_⟩
  obtain ⟨l', hl'⟩ : ∃ l', l' = u.set (j + n) low := ⟨_, rfl⟩
  rw [← hl']
  have hwl' : WB l' := by rw [hl']; exact h.wu.set h1
  have hll' : l'.length = m := by rw [hl']; simpa using hlu
  have hout : ∀ p, p < j ∨ j + n < p → l'.getD p 0 = u0.getD p 0 := by
    intro p hp
    rw [hl', getD_set, if_neg (by omega)]; exact h.out p (by omega)
  have hwv := h.wn
  have hvpos := wn_pos hwv h.n2
  have heq : seg l' j (n + 1) + g * vN = seg u0 j (n + 1) + br * 4294967296 ^ (n + 1) := by
    have hval := h.val
    rw [wval_take_all (l := dig vN) (Nat.le_of_eq hwv), wval_dig] at hval
    rw [hl', seg_set_last rfl (by omega), seg_succ, hu0, Nat.pow_succ]
    have h7 := congrArg (· * 4294967296 ^ n) h3
    simp only [Nat.add_mul] at h7 hval
    have h9 : br * (4294967296 ^ n * 4294967296) = br * 4294967296 * 4294967296 ^ n := by grind
    rw [h9]
    omega
  have hlt1 := seg_lt hwl' j (n + 1)
  refine ⟨hll', fun hb => ?_, fun hb => ?_⟩
  · rw [hb, Nat.one_mul] at heq
    refine ⟨⟨h.div, h.n2, h.nm, hwv, hwl', hll', hout, heq, h.g32, h.ge, h.gl, by omega, by omega, hwl', hll', fun _ _ => rfl, by simp [seg_zero]⟩, ?_⟩
    rcases Nat.eq_zero_or_pos g with h0 | h0
    · exfalso; subst h0; omega
    · exact h0
  · have hb0 : br = 0 := by omega
    rw [hb0, Nat.zero_mul, Nat.add_zero] at heq
    have G9 := guess_of h.div.wu h.n2 hwv h.div.lt
    have hcase := Guess.le_of G9 h.ge h.gl
    have hvlt : vN < 4294967296 ^ n := by rw [← hwv]; exact lt_wn vN
    obtain ⟨W9, hW9⟩ : ∃ W9, W9 = seg u0 j (n + 1) := ⟨_, rfl⟩
    rw [← hW9] at hcase heq
    have hWm : W9 % vN < vN := Nat.mod_lt _ hvpos
    have hWd := Nat.div_add_mod W9 vN
    have hgq : g = W9 / vN := by
      rcases hcase with h | h
      · exact h
      · exfalso; rw [h, Nat.succ_mul, Nat.mul_comm] at heq; omega
    have hgm : g * vN = vN * (W9 / vN) := by rw [hgq, Nat.mul_comm]
    have hR : seg l' j (n + 1) = W9 % vN := by omega
    refine h.div.next h.nm (R := W9 % vN) (by rw [← hW9]; omega) hWm h.g32 hwl' hll' ?_ (seg_top hR (by omega))
    exact seg_ext fun i _ hi => hout i (by omega)

theorem BackI.step {X vN n m j g k cr : Nat} {u qd u0 l' : List Nat} (h : BackI X vN n m j g k cr u qd u0 l') (hk : k < n) :
    ∃ low c : Nat, IntKind.u32.wrap (IntKind.u64.wrap ((IntKind.u64.wrap ((IntKind.u64.wrap ((u.getD (j + k) 0 : Nat) : Int)) + (IntKind.u64.wrap (((dig vN).getD k 0 : Nat) : Int)))) + (cr : Int))) = (low : Int) ∧
      Int.fdiv (IntKind.u64.wrap ((IntKind.u64.wrap ((IntKind.u64.wrap ((u.getD (j + k) 0 : Nat) : Int)) + (IntKind.u64.wrap (((dig vN).getD k 0 : Nat) : Int)))) + (cr : Int))) 4294967296 = (c : Int) ∧
      BackI X vN n m j g (k + 1) c (u.set (j + k) low) qd u0 l' := by
  have hjn := h.jn
  have hA := (WB_dig vN).getD k
  have hU := h.wu.getD (j + k)
  have hlu := h.lu
  have hcr := h.cr1
  have hL : l'.getD (j + k) 0 = u.getD (j + k) 0 := (h.out2 (j + k) (by omega)).symm
  generalize hA' : (dig vN).getD k 0 = A at *
  generalize hU' : u.getD (j + k) 0 = U at *
  rw [u64w (n := (U : Int)) (by omega) (by omega), u64w (n := (A : Int)) (by omega) (by omega), u64w (n := (U : Int) + A) (by omega) (by omega), u64w (n := (U : Int) + A + cr) (by omega) (by omega), Int.fdiv_eq_ediv_of_nonneg _ (by omega)]
  have K2 : IntKind.u32.wrap ((U : Int) + A + cr) = (((cr + U + A) % 4294967296 : Nat) : Int) := by rw [u32m]; omega
  have K3 : ((U : Int) + A + cr) / 4294967296 = (((cr + U + A) / 4294967296 : Nat) : Int) := by omega
  refine ⟨_, _, K2, K3, h.div, h.n2, h.nm, h.wn, h.wl, h.ll, h.out, h.eq, h.g32, h.ge, h.gl, hk, by omega, h.wu.set (by omega), by simpa using hlu, ?_, ?_⟩
  · intro i hi; rw [getD_set, if_neg (by omega)]; exact h.out2 i (by omega)
  · have hseg := h.val
    rw [seg_set_last rfl (by omega), seg_succ, seg_succ, Nat.zero_add, hA', hL, Nat.pow_succ]
    have h6 : (cr + U + A) % 4294967296 + (cr + U + A) / 4294967296 * 4294967296 = cr + U + A := by omega
    have h7 := congrArg (· * 4294967296 ^ k) h6
    simp only [Nat.add_mul] at h7 hseg ⊢
    have h9 : ∀ z, z * (4294967296 ^ k * 4294967296) = z * 4294967296 * 4294967296 ^ k := by intro z; grind
    rw [h9]
    omega

theorem BackI.last {X vN n m j g cr : Nat} {u qd u0 l' : List Nat} (h : BackI X vN n m j g n cr u qd u0 l') :
    ∃ low : Nat, IntKind.u32.wrap (((u.getD (j + n) 0 : Nat) : Int) + IntKind.u32.wrap (cr : Int)) = (low : Int) ∧ DivI X vN n m j (u.set (j + n) low) (qd.set j (g - 1)) := by
  have hjn := h.jn
  have hT := h.wu.getD (j + n)
  have hcr := h.cr1
  have hlu := h.lu
  have hL : l'.getD (j + n) 0 = u.getD (j + n) 0 := (h.out2 (j + n) (by omega)).symm
  generalize hT' : u.getD (j + n) 0 = T at *
  have K1 : IntKind.u32.wrap ((T : Int) + IntKind.u32.wrap (cr : Int)) = (((T + cr) % 4294967296 : Nat) : Int) := by rw [u32w (n := (cr : Int)) (by omega) (by omega), u32m]; omega
  refine ⟨_, K1, ?_⟩
  have hwv := h.wn
  have hvpos := wn_pos hwv h.n2
  have hvlt : vN < 4294967296 ^ n := by rw [← hwv]; exact lt_wn vN
  have hlt1 := seg_lt h.wl j (n + 1)
  have heq := h.eq
  have hge := h.ge
  have hgl := h.gl
  have hW3 : ∃ R, seg u0 j (n + 1) = R + (g - 1) * vN ∧ R < vN ∧ seg l' j (n + 1) + vN = R + 4294967296 ^ (n + 1) := by
    obtain ⟨W3, hW3⟩ : ∃ W3, W3 = seg u0 j (n + 1) := ⟨_, rfl⟩
    rw [← hW3] at heq hge hgl ⊢
    have h2 : W3 / vN < g := by
      rw [Nat.div_lt_iff_lt_mul hvpos]; omega
    have h3 : g - 1 = W3 / vN := by
      have := (Nat.le_div_iff_mul_le hvpos).2 hgl
      omega
    have h4 := Nat.div_add_mod' W3 vN
    have h5 : W3 % vN < vN := Nat.mod_lt _ hvpos
    refine ⟨W3 % vN, by rw [h3]; omega, h5, ?_⟩
    have h6 : g * vN = (g - 1) * vN + vN := by
      obtain ⟨q, rfl⟩ : ∃ q, g = q + 1 := ⟨g - 1, by omega⟩
      rw [Nat.succ_mul, Nat.add_sub_cancel]
    rw [h3] at h6
    omega
  obtain ⟨R, hR1, hR2, hR3⟩ := hW3
  have hfin : seg (u.set (j + n) ((T + cr) % 4294967296)) j (n + 1) = R := by
    rw [seg_set_last rfl (by omega)]
    rw [seg_succ, hL] at hR3
    have hseg := h.val
    rw [seg_dig vN (Nat.le_of_eq hwv)] at hseg
    exact add_back (seg_lt h.wu j n) (by omega) hT hcr hR3 hseg
  have hg1 : g - 1 < 4294967296 := by have := h.g32; omega
  refine h.div.next h.nm hR1 hR2 hg1 (h.wu.set (by omega)) (by simpa using hlu) ?_ (seg_top hfin (by omega))
  rw [seg_set_out (by omega)]
  exact seg_ext fun i _ hi => (h.out2 i (by omega)).trans (h.out i (by omega))

end Go.Proofs.YtcapadojlaojkaaGreat
