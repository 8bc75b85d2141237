/- Part of the proof; it has the parts CNum1 CTr1 COpen GPt GGt CTr2 CFor CBack CGate CR3a CR4 CR5 CShf CFac CGts CGt2 CPt. -/
import Derived.Test.YtnbjnokgmeamdaaPartC
import Derived.Deep.Slices
namespace Go.Proofs.Ytnbjnokgmeamdaa
open Go Go.Vc Go.Proofs

theorem nat_gcd_spec {V : View} {s t : Sl} {a b : Nat} (hs : NatAt V s a) (ht : NatAt V t b) (ha : wn a ≤ 2 ^ 43) (hb : wn b ≤ 2 ^ 43) :
    CallV Try.prog n_nat_gcd #[s.v, t.v] V fun v V' => ∃ r : Sl, v = r.v ∧ NatAt V' r (Nat.gcd a b) := by
  refine nat_gcd_vc s t V _ (fun _ x V' => ∃ a' b', NatAt V' x.t0 a' ∧ NatAt V' x.t1 b' ∧ wn a' ≤ 2 ^ 43 ∧ wn b' ≤ 2 ^ 43 ∧ Nat.gcd a' b' = Nat.gcd a b) (fun _ x V' => natVal V' x.t1) ⟨⟨a, b, hs, ht, ha, hb, rfl⟩, ?_⟩
  rintro ⟨x, y⟩ V1 l1 ⟨a', b', hx, hy, wa, wb, hg⟩
  simp only at hx hy ⊢
  have hyl := hy.len
  refine ⟨fun hp => ?_, fun hp => ?_⟩
  · simp only [gt_iff_lt, decide_eq_true_eq] at hp
    have hb0 : b' ≠ 0 := fun e => by rw [← hy.len_zero] at e; omega
    refine (nat_div_spec hx hy wa hb0).mono fun v V2 l2 ⟨q, r, hv, hq, hr⟩ => ⟨q, r, hv, ?_⟩
    have hlt : a' % b' < b' := Nat.mod_lt _ (by omega)
    have hwr : wn (a' % b') ≤ wn b' := wn_mono (Nat.le_of_lt hlt)
    refine ⟨⟨b', a' % b', hy.le l2, hr, wb, by omega, ?_⟩, ?_⟩
    · rw [Nat.gcd_comm, ← Nat.gcd_rec, Nat.gcd_comm]; exact hg
    · rw [natVal_eq hr, natVal_eq hy]; exact hlt
  · simp only [gt_iff_lt, decide_eq_false_iff_not] at hp
    have hb0 : b' = 0 := hy.len_zero.1 (by omega)
    subst hb0
    rw [Nat.gcd_zero_right] at hg
    exact ⟨x, rfl, by rw [← hg]; exact hx⟩

theorem num_wholeOf_spec {V : View} {s : Sl} {n : Nat} (neg : Bool) (h : NatAt V s n) :
    CallV Try.prog n_num_wholeOf #[.bool neg, s.v] V fun v V' => ∃ r : WhV, v = r.val ∧ IntAt V' r (if neg = true then -(n : Int) else n) := by
  have hl := h.len_zero
  refine num_wholeOf_vc neg s V _ ⟨fun hn => ⟨_, rfl, ?_, ?_⟩, fun hn => ⟨_, rfl, ?_, ?_⟩⟩
  · rw [if_pos hn]; simp only [gt_iff_lt, decide_eq_decide]; omega
  · rw [if_pos hn]; simpa using h
  · rw [if_neg (by simp [hn])]; symm; simp only [decide_eq_false_iff_not]; omega
  · rw [if_neg (by simp [hn])]; simpa using h

theorem num_of64_spec {V : View} {n : Int} (h0 : -9223372036854775808 ≤ n) (h1 : n ≤ 9223372036854775807) :
    CallV Try.prog n_num_of64 #[.int .i64 n] V fun v V' => ∃ r : WhV, v = r.val ∧ IntAt V' r n := by
  refine num_of64_vc n V _ ⟨fun hn => ?_, fun hn => ?_⟩
  · simp only [decide_eq_true_eq] at hn
    have e : IntKind.u64.wrap (0 - IntKind.u64.wrap n) = -n := by rw [u64m, u64m]; omega
    rw [e]
    refine (num_natOf_spec (by omega) (by omega)).mono fun v V1 _ ⟨r, hv, hr⟩ => ⟨r, hv, _, rfl, by simp [hn], ?_⟩
    have e2 : n.natAbs = (-n).toNat := by omega
    rw [e2]; exact hr
  · simp only [decide_eq_false_iff_not] at hn
    rw [u64w (by omega) (by omega)]
    refine (num_natOf_spec (by omega) (by omega)).mono fun v V1 _ ⟨r, hv, hr⟩ => ⟨r, hv, _, rfl, by simp [hn], ?_⟩
    have e2 : n.natAbs = n.toNat := by omega
    rw [e2]; exact hr

theorem whole_minus_spec {V : View} {x : WhV} {a : Int} (h : IntAt V x a) :
    CallV Try.prog n_whole_minus #[x.val] V fun v V' => ∃ r : WhV, v = r.val ∧ IntAt V' r (-a) := by
  refine whole_minus_vc x V _ ((num_wholeOf_spec (!x.neg) h.2).mono fun v V1 _ ⟨r, hv, hr⟩ => ⟨r, hv, r, rfl, ?_⟩)
  have e : (if (!x.neg) = true then -(a.natAbs : Int) else (a.natAbs : Int)) = -a := by
    rw [h.1]; simp only [Bool.not_eq_true', decide_eq_false_iff_not]; split <;> omega
  rw [e] at hr; exact hr

theorem whole_plus_spec {V : View} {x y : WhV} {a b : Int} (hx : IntAt V x a) (hy : IntAt V y b) (ha : wn a.natAbs ≤ 2 ^ 43) (hb : wn b.natAbs ≤ 2 ^ 43) :
    CallV Try.prog n_whole_plus #[x.val, y.val] V fun v V' => ∃ r : WhV, v = r.val ∧ IntAt V' r (a + b) := by
  have h1 := hx.1
  have h2 := hy.1
  refine whole_plus_vc x y V _ ⟨fun hs => ?_, fun hs => ?_⟩
  · refine (nat_add_spec hx.2 hy.2 (by omega) (by omega)).mono fun v V1 l1 ⟨r, hv, hr⟩ => ⟨r, hv, ?_⟩
    refine (num_wholeOf_spec x.neg hr).mono fun v V2 _ ⟨w, hv, hw⟩ => ⟨w, hv, w, rfl, ?_⟩
    have e : (if x.neg = true then -((a.natAbs + b.natAbs : Nat) : Int) else ((a.natAbs + b.natAbs : Nat) : Int)) = a + b := by
      rw [h1, h2] at hs; rw [h1]
      by_cases p : a < 0 <;> by_cases q : b < 0 <;> simp [p, q] at hs ⊢ <;> omega
    rw [e] at hw; exact hw
  · refine (nat_cmp_spec hx.2 hy.2 (by omega)).mono fun v V1 l1 hv => ⟨_, hv, fun hc => ?_, fun hc => ?_⟩
    · have hc : b.natAbs ≤ a.natAbs := by
        rcases Nat.lt_or_ge a.natAbs b.natAbs with h | h
        · rw [if_pos h] at hc; simp at hc
        · exact h
      refine (nat_sub_spec (hx.2.le l1) (hy.2.le l1) (by omega) hc).mono fun v V2 l2 ⟨r, hv, hr⟩ => ⟨r, hv, ?_⟩
      refine (num_wholeOf_spec x.neg hr).mono fun v V3 _ ⟨w, hv, hw⟩ => ⟨w, hv, w, rfl, ?_⟩
      have e : (if x.neg = true then -((a.natAbs - b.natAbs : Nat) : Int) else ((a.natAbs - b.natAbs : Nat) : Int)) = a + b := by
        rw [h1, h2] at hs; rw [h1]
        by_cases p : a < 0 <;> by_cases q : b < 0 <;> simp [p, q] at hs ⊢ <;> omega
      rw [e] at hw; exact hw
    · have hc : a.natAbs ≤ b.natAbs := by
        rcases Nat.lt_or_ge b.natAbs a.natAbs with h | h
        · rw [if_neg (by omega), if_neg (by omega)] at hc; simp at hc
        · exact h
      refine (nat_sub_spec (hy.2.le l1) (hx.2.le l1) (by omega) hc).mono fun v V2 l2 ⟨r, hv, hr⟩ => ⟨r, hv, ?_⟩
      refine (num_wholeOf_spec y.neg hr).mono fun v V3 _ ⟨w, hv, hw⟩ => ⟨w, hv, w, rfl, ?_⟩
      have e : (if y.neg = true then -((b.natAbs - a.natAbs : Nat) : Int) else ((b.natAbs - a.natAbs : Nat) : Int)) = a + b := by
        rw [h1, h2] at hs; rw [h2]
        by_cases p : a < 0 <;> by_cases q : b < 0 <;> simp [p, q] at hs ⊢ <;> omega
      rw [e] at hw; exact hw

theorem sign_mul (x y a b : Int) (hx : x = if a < 0 then -1 else 1) (hy : y = if b < 0 then -1 else 1) : a * b = x * y * (a.natAbs * b.natAbs : Nat) := by
  have ha : a = x * a.natAbs := by rw [hx]; split <;> omega
  have hb : b = y * b.natAbs := by rw [hy]; split <;> omega
  rw [Int.natCast_mul]
  conv => lhs; rw [ha, hb]
  grind

theorem whole_times_spec {V : View} {x y : WhV} {a b : Int} (hx : IntAt V x a) (hy : IntAt V y b) (ha : wn a.natAbs ≤ 2 ^ 43) (hb : wn b.natAbs ≤ 2 ^ 43) :
    CallV Try.prog n_whole_times #[x.val, y.val] V fun v V' => ∃ r : WhV, v = r.val ∧ IntAt V' r (a * b) := by
  refine whole_times_vc x y V _ ((nat_mul_spec hx.2 hy.2 (by omega) (by omega)).mono fun v V1 l1 ⟨r, hv, hr⟩ => ⟨r, hv, ?_⟩)
  refine (num_wholeOf_spec (!(x.neg == y.neg)) hr).mono fun v V2 _ ⟨w, hv, hw⟩ => ⟨w, hv, w, rfl, ?_⟩
  have e : (if (!(x.neg == y.neg)) = true then -((a.natAbs * b.natAbs : Nat) : Int) else ((a.natAbs * b.natAbs : Nat) : Int)) = a * b := by
    rw [sign_mul _ _ a b rfl rfl, hx.1, hy.1]
    by_cases p : a < 0 <;> by_cases q : b < 0 <;> simp [p, q]
  rw [e] at hw; exact hw

theorem whole_scaled_spec {V : View} {x : WhV} {s : Sl} {a : Int} {n : Nat} (hx : IntAt V x a) (hs : NatAt V s n) (ha : wn a.natAbs ≤ 2 ^ 43) (hb : wn n ≤ 2 ^ 43) :
    CallV Try.prog n_whole_scaled #[x.val, s.v] V fun v V' => ∃ r : WhV, v = r.val ∧ IntAt V' r (a * n) := by
  refine whole_scaled_vc x s V _ ((nat_mul_spec hx.2 hs (by omega) (by omega)).mono fun v V1 l1 ⟨r, hv, hr⟩ => ⟨r, hv, ?_⟩)
  refine (num_wholeOf_spec x.neg hr).mono fun v V2 _ ⟨w, hv, hw⟩ => ⟨w, hv, w, rfl, ?_⟩
  have e : (if x.neg = true then -((a.natAbs * n : Nat) : Int) else ((a.natAbs * n : Nat) : Int)) = a * n := by
    conv => rhs; rw [hx.val]
    rw [Int.natCast_mul]; split
    · rw [Int.neg_mul]
    · rfl
  rw [e] at hw; exact hw

theorem whole_cmp_spec {V : View} {x y : WhV} {a b : Int} (hx : IntAt V x a) (hy : IntAt V y b) (ha : wn a.natAbs ≤ 2 ^ 43) (hb : wn b.natAbs ≤ 2 ^ 43) :
    CallV Try.prog n_whole_cmp #[x.val, y.val] V fun v _ => v = .int .i64 (cmpZ a b) := by
  refine whole_cmp_vc x y V _ ((whole_minus_spec hy).mono fun v V1 l1 ⟨r, hv, hr⟩ => ⟨r, hv, ?_⟩)
  refine (whole_plus_spec (hx.le l1) hr ha (by rw [Int.natAbs_neg]; exact hb)).mono fun v V2 l2 ⟨w, hv, hw⟩ => ⟨w, hv, fun h => ?_, fun h => ?_⟩
  · have : a + -b < 0 := by have := hw.1; rw [h] at this; simpa using this
    rw [cmpZ_lt (by omega)]
  · have h1 : ¬ a + -b < 0 := by have := hw.1; rw [h] at this; simpa using this
    have h2 := hw.2.len_zero
    by_cases e : a = b
    · have : w.mag.len = 0 := h2.2 (by omega)
      rw [cmpZ_eq e, this]; rfl
    · have : w.mag.len ≠ 0 := fun h => by have := h2.1 h; omega
      rw [cmpZ_gt (by omega)]
      congr 1; split <;> omega

/-- (a + b i)/d in lowest terms. -/
theorem num_over_spec {V : View} {x y : WhV} {s : Sl} {z : Cq} {a b : Int} {d : Nat} (hx : IntAt V x a) (hy : IntAt V y b) (hs : NatAt V s d) (hz : Rep z a b d) (ha : wn a.natAbs ≤ 2 ^ 43) (hb : wn b.natAbs ≤ 2 ^ 43) (hd : wn d ≤ 2 ^ 43) :
    CallV Try.prog n_num_over #[x.val, y.val, s.v] V fun v V' => ∃ r : NumV, v = r.val ∧ NumAt V' r z := by
  obtain ⟨e1, e2, e3⟩ := hz.eqs
  have hp := gcd3_pos a b hz.pos
  have d1 := gcd3_dvd1 a b d
  have d2 := gcd3_dvd2 a b d
  have d3 := gcd3_dvd3 a b d
  refine num_over_vc x y s V _ ((nat_gcd_spec hx.2 hy.2 ha hb).mono fun v V1 l1 ⟨r1, hv, h1⟩ => ⟨r1, hv, ?_⟩)
  have hw1 : wn (Nat.gcd a.natAbs b.natAbs) ≤ 2 ^ 43 := by
    rcases Nat.eq_zero_or_pos a.natAbs with h | h
    · rw [h, Nat.gcd_zero_left]; exact hb
    · exact Nat.le_trans (wn_mono (Nat.le_of_dvd h (Nat.gcd_dvd_left _ _))) ha
  refine (nat_gcd_spec h1 (hs.le l1) hw1 hd).mono fun v V2 l2 ⟨r2, hv, h2⟩ => ⟨r2, hv, ?_⟩
  have hg : Nat.gcd (Nat.gcd a.natAbs b.natAbs) d = gcd3 a b d := rfl
  rw [hg] at h2
  refine (nat_one_spec h2).mono fun v V3 l3 hv => ⟨_, hv, fun hn => ?_, fun hn => ?_⟩
  · have l13 := View.le_trans l1 (View.le_trans l2 l3)
    refine (nat_div_spec (hx.2.le l13) (h2.le l3) ha (by omega)).mono fun v V4 l4 ⟨q1, m1, hv, hq1, _⟩ => ⟨q1, m1, hv, ?_⟩
    refine (nat_div_spec (hy.2.le (View.le_trans l13 l4)) (h2.le (View.le_trans l3 l4)) hb (by omega)).mono fun v V5 l5 ⟨q2, m2, hv, hq2, _⟩ => ⟨q2, m2, hv, ?_⟩
    have l45 := View.le_trans l4 l5
    refine (nat_div_spec (hs.le (View.le_trans l13 l45)) (h2.le (View.le_trans l3 l45)) hd (by omega)).mono fun v V6 l6 ⟨q3, m3, hv, hq3, _⟩ => ⟨q3, m3, hv, ?_⟩
    have f1 : IntAt V6 (WhV.mk x.neg q1) z.A := ⟨by rw [e1, div_lt_zero d1 hp]; exact hx.1, by rw [e1, natAbs_div d1]; exact hq1.le (View.le_trans l5 l6)⟩
    have f2 : IntAt V6 (WhV.mk y.neg q2) z.B := ⟨by rw [e2, div_lt_zero d2 hp]; exact hy.1, by rw [e2, natAbs_div d2]; exact hq2.le l6⟩
    refine (nat_one_spec hq3).mono fun v V7 l7 hv => ⟨_, hv, fun h => ⟨_, rfl, f1.le l7, f2.le l7, ?_⟩, fun h => ⟨_, rfl, f1.le l7, f2.le l7, ?_⟩⟩
    · simp only [decide_eq_true_eq] at h
      rw [e3, if_pos h]; exact NatAt.zero V7
    · simp only [decide_eq_false_iff_not] at h
      rw [e3, if_neg h]; exact hq3.le l7
  · simp only [Bool.not_eq_false', decide_eq_true_eq] at hn
    rw [hn] at e1 e2 e3
    simp only [Int.natCast_one, Int.ediv_one] at e1 e2
    rw [Nat.div_one] at e3
    have l13 := View.le_trans l1 (View.le_trans l2 l3)
    refine (nat_one_spec (hs.le l13)).mono fun v V7 l7 hv => ⟨_, hv, fun h => ⟨_, rfl, ?_, ?_, ?_⟩, fun h => ⟨_, rfl, ?_, ?_, ?_⟩⟩
    · rw [e1]; exact hx.le (View.le_trans l13 l7)
    · rw [e2]; exact hy.le (View.le_trans l13 l7)
    · simp only [decide_eq_true_eq] at h
      rw [e3, if_pos h]; exact NatAt.zero V7
    · rw [e1]; exact hx.le (View.le_trans l13 l7)
    · rw [e2]; exact hy.le (View.le_trans l13 l7)
    · simp only [decide_eq_false_iff_not] at h
      rw [e3, if_neg h]; exact hs.le (View.le_trans l13 l7)

theorem Num_den_spec {V : View} {x : NumV} {z : Cq} (h : NumAt V x z) : CallV Try.prog n_Num_den #[x.val] V fun v V' => ∃ r : Sl, v = r.v ∧ NatAt V' r z.D := by
  have hu := h.under
  have hl := hu.len_zero
  have hD := z.D_pos
  refine Num_den_vc x V _ ⟨fun h0 => ?_, fun h0 => ?_⟩
  · have h0 : x.under.len = 0 := by have : (x.under.len : Int) = 0 := (by simpa using h0); omega
    intro b V1 l1 _ hb
    have hz := hl.1 h0
    have h1 : z.D = 1 := by split at hz <;> omega
    refine ⟨_, rfl, ?_⟩
    rw [h1]
    have : dig 1 = [1] := by rw [dig_pos (by omega)]; simp [dig_zero]
    unfold NatAt; rw [this]
    exact Words.of_block (by rw [hb]; rfl) rfl (Nat.le_refl _) (by intro d hd; simp at hd; omega)
  · have h0 : x.under.len ≠ 0 := by have : ¬ (x.under.len : Int) = 0 := (by simpa using h0); omega
    refine ⟨_, rfl, ?_⟩
    have hz : ¬ (if z.D = 1 then 0 else z.D) = 0 := fun e => h0 (hl.2 e)
    split at hz
    · omega
    · rename_i h1; rw [if_neg h1] at hu; exact hu

theorem num_Int_spec {V : View} {n : Int} (h0 : -9223372036854775808 ≤ n) (h1 : n ≤ 9223372036854775807) :
    CallV Try.prog n_num_Int #[.int .i64 n] V fun v V' => ∃ r : NumV, v = r.val ∧ NumAt V' r ⟨(n : Rat), 0⟩ := by
  obtain ⟨e1, e2, e3⟩ := Cq.ofInt_eqs n
  refine num_Int_vc n V _ ((num_of64_spec h0 h1).mono fun v V1 _ ⟨r, hv, hr⟩ => ⟨r, hv, _, rfl, by rw [e1]; exact hr, by rw [e2]; exact IntAt.zero _, by rw [e3]; exact NatAt.zero _⟩)

theorem wn64 {n : Nat} (h : n ≤ 18446744073709551615) : wn n ≤ 2 ^ 43 := by
  have : wn n ≤ 2 := wn_le_of_lt (by omega)
  omega

/-- (p + q i)/d for d other than 0. -/
theorem num_New_spec {V : View} {p q d : Int} (p0 : -9223372036854775808 ≤ p) (p1 : p ≤ 9223372036854775807) (q0 : -9223372036854775808 ≤ q) (q1 : q ≤ 9223372036854775807) (d0 : -9223372036854775808 ≤ d) (d1 : d ≤ 9223372036854775807) (hd : d ≠ 0) :
    CallV Try.prog n_num_New #[.int .i64 p, .int .i64 q, .int .i64 d] V fun v V' => ∃ r : NumV, v = .tuple #[r.val, .int .i64 0] ∧ NumAt V' r ⟨(p : Rat) / (d : Rat), (q : Rat) / (d : Rat)⟩ := by
  refine num_New_vc p q d V _ ⟨fun h => ?_, fun _ => ?_⟩
  · exact absurd (by simpa using h) hd
  refine (num_of64_spec p0 p1).mono fun v V1 l1 ⟨a, hv, ha⟩ => ⟨a, hv, ?_⟩
  refine (num_of64_spec q0 q1).mono fun v V2 l2 ⟨b, hv, hb⟩ => ⟨b, hv, ?_⟩
  refine (num_of64_spec d0 d1).mono fun v V3 l3 ⟨c, hv, hc⟩ => ⟨c, hv, fun hn => ?_, fun hn => ?_⟩
  · have hneg : d < 0 := by have := hc.1; rw [hn] at this; simpa using this.symm
    refine (whole_minus_spec (ha.le (View.le_trans l2 l3))).mono fun v V4 l4 ⟨a', hv, ha'⟩ => ⟨a', hv, ?_⟩
    refine (whole_minus_spec (hb.le (View.le_trans l3 l4))).mono fun v V5 l5 ⟨b', hv, hb'⟩ => ⟨b', hv, ?_⟩
    refine (num_over_spec (ha'.le l5) hb' (hc.2.le (View.le_trans l4 l5)) ?_ (wn64 (by omega)) (wn64 (by omega)) (wn64 (by omega))).mono fun v V6 l6 ⟨r, hv, hr⟩ => ⟨r, hv, r, rfl, hr⟩
    have e : ((d.natAbs : Nat) : Rat) = -(d : Rat) := by
      have : (d.natAbs : Int) = -d := by omega
      rw [← Rat.intCast_natCast, this]; push_cast; rfl
    refine ⟨by omega, ?_, ?_⟩ <;> (simp only [e]; push_cast; rw [Rat.div_def, Rat.div_def]; grind)
  · have hpos : ¬ d < 0 := by have := hc.1; rw [hn] at this; simpa using this.symm
    refine (num_over_spec (ha.le (View.le_trans l2 l3)) (hb.le l3) hc.2 ?_ (wn64 (by omega)) (wn64 (by omega)) (wn64 (by omega))).mono fun v V6 l6 ⟨r, hv, hr⟩ => ⟨r, hv, r, rfl, hr⟩
    have e : ((d.natAbs : Nat) : Rat) = (d : Rat) := by
      have : (d.natAbs : Int) = d := by omega
      rw [← Rat.intCast_natCast, this]
    refine ⟨by omega, ?_, ?_⟩ <;> simp only [e]

/-- The sizes that the operations need. -/
theorem Cq.wA {z : Cq} (h : z.sz ≤ 2 ^ 40) : wn z.A.natAbs ≤ 2 ^ 35 := wn_bl (by have := z.szA; omega)
theorem Cq.wB {z : Cq} (h : z.sz ≤ 2 ^ 40) : wn z.B.natAbs ≤ 2 ^ 35 := wn_bl (by have := z.szB; omega)
theorem Cq.wD {z : Cq} (h : z.sz ≤ 2 ^ 40) : wn z.D ≤ 2 ^ 35 := wn_bl (by have := z.szD; omega)
theorem wn_muli {a b : Int} {k : Nat} (ha : wn a.natAbs ≤ k) (hb : wn b.natAbs ≤ k) : wn (a * b).natAbs ≤ 2 * k := by
  rw [Int.natAbs_mul]; have := wn_mul_le a.natAbs b.natAbs; omega
theorem wn_addi {a b : Int} {k : Nat} (ha : wn a.natAbs ≤ k) (hb : wn b.natAbs ≤ k) : wn (a + b).natAbs ≤ k + 1 := by
  have := wn_mono (Int.natAbs_add_le a b); have := wn_add_le a.natAbs b.natAbs; omega
theorem wn_negi {a : Int} {k : Nat} (ha : wn a.natAbs ≤ k) : wn (-a).natAbs ≤ k := by rw [Int.natAbs_neg]; exact ha

theorem Num_Add_spec {V : View} {x y : NumV} {z w : Cq} (hx : NumAt V x z) (hy : NumAt V y w) (hz : z.sz ≤ 2 ^ 40) (hw : w.sz ≤ 2 ^ 40) :
    CallV Try.prog n_Num_Add #[x.val, y.val] V fun v V' => ∃ r : NumV, v = r.val ∧ NumAt V' r (z + w) := by
  have zA := Cq.wA hz; have zB := Cq.wB hz; have zD := Cq.wD hz
  have wA := Cq.wA hw; have wB := Cq.wB hw; have wD := Cq.wD hw
  have zD' : wn (z.D : Int).natAbs ≤ 2 ^ 35 := zD
  have wD' : wn (w.D : Int).natAbs ≤ 2 ^ 35 := wD
  have s1 := wn_muli zA wD'; have s2 := wn_muli wA zD'; have s3 := wn_muli zB wD'; have s4 := wn_muli wB zD'
  have s5 := wn_addi s1 s2; have s6 := wn_addi s3 s4
  have s7 := wn_mul_le z.D w.D
  refine Num_Add_vc x y V _ ((Num_den_spec hx).mono fun v V1 l1 ⟨r1, hv, h1⟩ => ⟨r1, hv, ?_⟩)
  replace hx := hx.le l1; replace hy := hy.le l1
  refine (Num_den_spec hy).mono fun v V2 l2 ⟨r2, hv, h2⟩ => ⟨r2, hv, ?_⟩
  replace hx := hx.le l2; replace hy := hy.le l2; replace h1 := h1.le l2
  refine (whole_scaled_spec hx.re h2 (by omega) (by omega)).mono fun v V3 l3 ⟨r3, hv, h3⟩ => ⟨r3, hv, ?_⟩
  replace hx := hx.le l3; replace hy := hy.le l3; replace h1 := h1.le l3; replace h2 := h2.le l3
  refine (whole_scaled_spec hy.re h1 (by omega) (by omega)).mono fun v V4 l4 ⟨r4, hv, h4⟩ => ⟨r4, hv, ?_⟩
  replace hx := hx.le l4; replace hy := hy.le l4; replace h1 := h1.le l4; replace h2 := h2.le l4; replace h3 := h3.le l4
  refine (whole_plus_spec h3 h4 (by omega) (by omega)).mono fun v V5 l5 ⟨r5, hv, h5⟩ => ⟨r5, hv, ?_⟩
  replace hx := hx.le l5; replace hy := hy.le l5; replace h1 := h1.le l5; replace h2 := h2.le l5
  refine (whole_scaled_spec hx.im h2 (by omega) (by omega)).mono fun v V6 l6 ⟨r6, hv, h6⟩ => ⟨r6, hv, ?_⟩
  replace hy := hy.le l6; replace h1 := h1.le l6; replace h2 := h2.le l6; replace h5 := h5.le l6
  refine (whole_scaled_spec hy.im h1 (by omega) (by omega)).mono fun v V7 l7 ⟨r7, hv, h7⟩ => ⟨r7, hv, ?_⟩
  replace h1 := h1.le l7; replace h2 := h2.le l7; replace h5 := h5.le l7; replace h6 := h6.le l7
  refine (whole_plus_spec h6 h7 (by omega) (by omega)).mono fun v V8 l8 ⟨r8, hv, h8⟩ => ⟨r8, hv, ?_⟩
  replace h1 := h1.le l8; replace h2 := h2.le l8; replace h5 := h5.le l8
  refine (nat_mul_spec h1 h2 (by omega) (by omega)).mono fun v V9 l9 ⟨r9, hv, h9⟩ => ⟨r9, hv, ?_⟩
  exact (num_over_spec (h5.le l9) (h8.le l9) h9 (z.canon.rep.add w.canon.rep) (by omega) (by omega) (by omega)).mono fun v V10 _ ⟨r, hv, hr⟩ => ⟨r, hv, r, rfl, hr⟩

theorem Num_Neg_spec {V : View} {x : NumV} {z : Cq} (hx : NumAt V x z) : CallV Try.prog n_Num_Neg #[x.val] V fun v V' => ∃ r : NumV, v = r.val ∧ NumAt V' r (-z) := by
  obtain ⟨e1, e2, e3⟩ := z.neg_eqs
  refine Num_Neg_vc x V _ ((whole_minus_spec hx.re).mono fun v V1 l1 ⟨r1, hv, h1⟩ => ⟨r1, hv, ?_⟩)
  exact (whole_minus_spec (hx.im.le l1)).mono fun v V2 l2 ⟨r2, hv, h2⟩ => ⟨r2, hv, _, rfl, by rw [e1]; exact h1.le l2, by rw [e2]; exact h2, by rw [e3]; exact hx.under.le (View.le_trans l1 l2)⟩

theorem Num_Sub_spec {V : View} {x y : NumV} {z w : Cq} (hx : NumAt V x z) (hy : NumAt V y w) (hz : z.sz ≤ 2 ^ 40) (hw : w.sz ≤ 2 ^ 40) :
    CallV Try.prog n_Num_Sub #[x.val, y.val] V fun v V' => ∃ r : NumV, v = r.val ∧ NumAt V' r (z - w) := by
  refine Num_Sub_vc x y V _ ((Num_Neg_spec hy).mono fun v V1 l1 ⟨r1, hv, h1⟩ => ⟨r1, hv, ?_⟩)
  rw [Cq.sub_eq]
  exact (Num_Add_spec (hx.le l1) h1 hz (by rw [Cq.sz_neg]; exact hw)).mono fun v V2 _ ⟨r, hv, hr⟩ => ⟨r, hv, r, rfl, hr⟩

theorem Num_Mul_spec {V : View} {x y : NumV} {z w : Cq} (hx : NumAt V x z) (hy : NumAt V y w) (hz : z.sz ≤ 2 ^ 40) (hw : w.sz ≤ 2 ^ 40) :
    CallV Try.prog n_Num_Mul #[x.val, y.val] V fun v V' => ∃ r : NumV, v = r.val ∧ NumAt V' r (z * w) := by
  have zA := Cq.wA hz; have zB := Cq.wB hz; have zD := Cq.wD hz
  have wA := Cq.wA hw; have wB := Cq.wB hw; have wD := Cq.wD hw
  have s1 := wn_muli zA wA; have s2 := wn_muli zB wB; have s2' := wn_negi s2; have s3 := wn_muli zA wB; have s4 := wn_muli zB wA
  have s5 := wn_addi s1 s2'; have s6 := wn_addi s3 s4
  have s7 := wn_mul_le z.D w.D
  refine Num_Mul_vc x y V _ ((whole_times_spec hx.re hy.re (by omega) (by omega)).mono fun v V1 l1 ⟨r1, hv, h1⟩ => ⟨r1, hv, ?_⟩)
  replace hx := hx.le l1; replace hy := hy.le l1
  refine (whole_times_spec hx.im hy.im (by omega) (by omega)).mono fun v V2 l2 ⟨r2, hv, h2⟩ => ⟨r2, hv, ?_⟩
  replace hx := hx.le l2; replace hy := hy.le l2; replace h1 := h1.le l2
  refine (whole_minus_spec h2).mono fun v V3 l3 ⟨r3, hv, h3⟩ => ⟨r3, hv, ?_⟩
  replace hx := hx.le l3; replace hy := hy.le l3; replace h1 := h1.le l3
  refine (whole_plus_spec h1 h3 (by omega) (by omega)).mono fun v V4 l4 ⟨r4, hv, h4⟩ => ⟨r4, hv, ?_⟩
  replace hx := hx.le l4; replace hy := hy.le l4
  refine (whole_times_spec hx.re hy.im (by omega) (by omega)).mono fun v V5 l5 ⟨r5, hv, h5⟩ => ⟨r5, hv, ?_⟩
  replace hx := hx.le l5; replace hy := hy.le l5; replace h4 := h4.le l5
  refine (whole_times_spec hx.im hy.re (by omega) (by omega)).mono fun v V6 l6 ⟨r6, hv, h6⟩ => ⟨r6, hv, ?_⟩
  replace hx := hx.le l6; replace hy := hy.le l6; replace h4 := h4.le l6; replace h5 := h5.le l6
  refine (whole_plus_spec h5 h6 (by omega) (by omega)).mono fun v V7 l7 ⟨r7, hv, h7⟩ => ⟨r7, hv, ?_⟩
  replace hx := hx.le l7; replace hy := hy.le l7; replace h4 := h4.le l7
  refine (Num_den_spec hx).mono fun v V8 l8 ⟨r8, hv, h8⟩ => ⟨r8, hv, ?_⟩
  replace hy := hy.le l8; replace h4 := h4.le l8; replace h7 := h7.le l8
  refine (Num_den_spec hy).mono fun v V9 l9 ⟨r9, hv, h9⟩ => ⟨r9, hv, ?_⟩
  replace h4 := h4.le l9; replace h7 := h7.le l9; replace h8 := h8.le l9
  refine (nat_mul_spec h8 h9 (by omega) (by omega)).mono fun v V10 l10 ⟨r10, hv, h10⟩ => ⟨r10, hv, ?_⟩
  refine (num_over_spec (h4.le l10) (h7.le l10) h10 ?_ (by omega) (by omega) (by omega)).mono fun v V11 _ ⟨r, hv, hr⟩ => ⟨r, hv, r, rfl, hr⟩
  rw [← Int.sub_eq_add_neg]; exact z.canon.rep.mul w.canon.rep

theorem Num_Same_spec {V : View} {x y : NumV} {z w : Cq} (hx : NumAt V x z) (hy : NumAt V y w) (hz : z.sz ≤ 2 ^ 40) (hw : w.sz ≤ 2 ^ 40) :
    CallV Try.prog n_Num_Same #[x.val, y.val] V fun v _ => v = .bool (decide (z = w)) := by
  have zA := Cq.wA hz; have zB := Cq.wB hz; have zD := Cq.wD hz
  have wA := Cq.wA hw; have wB := Cq.wB hw; have wD := Cq.wD hw
  refine Num_Same_vc x y V _ ((whole_cmp_spec hx.re hy.re (by omega) (by omega)).mono fun v V1 l1 hv => ⟨_, hv, fun h1 => ?_, fun h1 => ⟨(fun h => by cases h), fun _ => ?_⟩⟩)
  · have h1 : z.A = w.A := cmpZ_zero.1 (by simpa using h1)
    refine (whole_cmp_spec (hx.im.le l1) (hy.im.le l1) (by omega) (by omega)).mono fun v V2 l2 hv => ⟨_, hv, fun h2 => ?_, fun h2 => ?_⟩
    · have h2 : z.B = w.B := cmpZ_zero.1 (by simpa using h2)
      refine (nat_cmp_spec (hx.under.le (View.le_trans l1 l2)) (hy.under.le (View.le_trans l1 l2)) ?_).mono fun v V3 l3 hv => ⟨_, hv, ?_⟩
      · split
        · rw [wn_zero]; omega
        · omega
      · have hD1 := z.D_pos
        have hD2 := w.D_pos
        congr 1
        by_cases e : z.D = w.D
        · have : z = w := Cq.eq_of h1 h2 e
          subst this; simp
        · have : z ≠ w := by rintro rfl; exact e rfl
          simp only [this, decide_false]
          have h3 : (if z.D = 1 then 0 else z.D) ≠ (if w.D = 1 then 0 else w.D) := by split <;> split <;> omega
          rw [if_neg h3]
          by_cases h : (if z.D = 1 then 0 else z.D) < (if w.D = 1 then 0 else w.D)
          · rw [if_pos h]; rfl
          · rw [if_neg h]; rfl
    · have h2 : ¬ z.B = w.B := fun e => by rw [cmpZ_zero.2 e] at h2; simp at h2
      have : z ≠ w := by rintro rfl; exact h2 rfl
      simp [this]
  · have h1 : ¬ z.A = w.A := fun e => by rw [cmpZ_zero.2 e] at h1; simp at h1
    have : z ≠ w := by rintro rfl; exact h1 rfl
    simp [this]

theorem Num_Real_spec {V : View} {x : NumV} {z : Cq} (hx : NumAt V x z) : CallV Try.prog n_Num_Real #[x.val] V fun v _ => v = .bool (decide (z.im = 0)) := by
  refine Num_Real_vc x V _ ?_
  have h1 := hx.im.2.len_zero
  have h2 := Cq.B_zero (z := z)
  congr 1
  by_cases e : z.im = 0
  · have : x.im.mag.len = 0 := h1.2 (by rw [h2.2 e]; rfl)
    simp [e, this]
  · have : x.im.mag.len ≠ 0 := fun h => e (h2.1 (by have := h1.1 h; omega))
    simp only [e, decide_false, beq_eq_false_iff_ne, ne_eq]; omega

theorem Num_Of_spec {V : View} {x y : NumV} {w : Cq} (hy : NumAt V y w) : CallV Try.prog n_Num_Of #[x.val, y.val] V fun v V' => ∃ r : NumV, v = r.val ∧ NumAt V' r w :=
  Num_Of_vc x y V _ ⟨y, rfl, hy⟩

end Go.Proofs.Ytnbjnokgmeamdaa

namespace Go.Proofs.Ytnbjnokgmeamdaa
open Go Go.Vc Go.Proofs

def lenB (n : Nat) : Bool := [1, 2, 4, 8, 16, 32, 64].contains n
theorem lenB_eq : ∀ n ∈ List.range 65, 1 ≤ n → (IntKind.i64.wrap (BitVec.toNat ((BitVec.ofInt IntKind.i64.bits (n : Int)) &&& (BitVec.ofInt IntKind.i64.bits (IntKind.i64.wrap ((n : Int) - 1))))) == 0) = lenB n := by
  decide +kernel
theorem lenB_le {n : Nat} (h : lenB n = true) : 1 ≤ n ∧ n ≤ 64 := by
  simp [lenB] at h; omega

theorem transform_length_spec {V : View} {n : Int} (h0 : 0 ≤ n) : CallV Try.prog n_transform_length #[.int .i64 n] V fun v _ => v = .bool (lenB n.toNat) := by
  refine transform_length_vc n V _ ⟨fun h1 => ⟨fun h2 => ?_, fun h2 => ?_⟩, fun h1 => ⟨fun h => absurd h (by simp), fun _ => ?_⟩⟩
  · simp only [decide_eq_true_eq] at h1 h2
    have := lenB_eq n.toNat (by simp; omega) (by omega)
    rw [Int.toNat_of_nonneg h0] at this
    rw [this]
  · simp only [decide_eq_false_iff_not] at h2
    congr 1; symm
    rw [Bool.eq_false_iff]; intro e
    have := lenB_le e; omega
  · simp only [decide_eq_false_iff_not] at h1
    congr 1; symm
    rw [Bool.eq_false_iff]; intro e
    have := lenB_le e; omega

theorem transform_fits_spec {V : View} (p q : Sl) : CallV Try.prog n_transform_fits_num_Num_ #[p.v, q.v] V fun v _ => v = .bool (lenB q.len && decide (p.len = q.len)) := by
  refine transform_fits_num_Num__vc p q V _ ((transform_length_spec (Int.natCast_nonneg _)).mono fun v V1 l1 hv => ⟨_, hv, fun h => ?_, fun h => ?_⟩)
  · rw [Int.toNat_natCast] at h
    rw [h, Bool.true_and]; congr 1
    rw [Bool.eq_iff_iff]; simp; omega
  · rw [Int.toNat_natCast] at h
    rw [h, Bool.false_and]

/-- What a plain number stands for. -/
def ratQ (r : RatV) : Cq := if r.den = 0 then ⟨(r.re : Rat), (r.im : Rat)⟩ else ⟨(r.re : Rat) / (r.den : Rat), (r.im : Rat) / (r.den : Rat)⟩
def ratI (r : RatV) : Prop := (-9223372036854775808 ≤ r.re ∧ r.re ≤ 9223372036854775807) ∧ (-9223372036854775808 ≤ r.im ∧ r.im ≤ 9223372036854775807) ∧ (-9223372036854775808 ≤ r.den ∧ r.den ≤ 9223372036854775807)
def ratC (_ : View) (x : List Value) (r : RatV) : Prop := x = r.val.cells.toList
def RatsAt (V : View) (s : Sl) (rs : List RatV) : Prop := ListAt 3 ratC V s rs
theorem RatsAt.le {V V' : View} (hle : V.le V') {s : Sl} {rs : List RatV} (h : RatsAt V s rs) : RatsAt V' s rs := ListAt.le (P := ratC) (V := V) (V' := V') (fun _ _ h => h) hle h

theorem law1_Of_spec {V : View} {r : RatV} (h : ratI r) : CallV Try.prog n_law1_Of #[r.val] V fun v V' => ∃ x : NumV, v = x.val ∧ NumAt V' x (ratQ r) := by
  obtain ⟨⟨a1, a2⟩, ⟨b1, b2⟩, ⟨c1, c2⟩⟩ := h
  refine law1_Of_vc r V _ ⟨fun h0 => ?_, fun h0 => ?_⟩
  · have h0 : r.den = 0 := by simpa using h0
    refine (num_New_spec a1 a2 b1 b2 (by omega) (by omega) (by omega)).mono fun v V1 _ ⟨x, hv, hx⟩ => ⟨x, 0, hv, x, rfl, ?_⟩
    have e : ratQ r = ⟨(r.re : Rat) / ((1 : Int) : Rat), (r.im : Rat) / ((1 : Int) : Rat)⟩ := by
      unfold ratQ; rw [if_pos h0]; simp only [Rat.div_def, Cq.mk.injEq]; constructor <;> grind
    rw [e]; exact hx
  · have h0 : r.den ≠ 0 := by simpa using h0
    refine (num_New_spec a1 a2 b1 b2 c1 c2 h0).mono fun v V1 _ ⟨x, hv, hx⟩ => ⟨x, 0, hv, x, rfl, ?_⟩
    unfold ratQ; rw [if_neg h0]; exact hx

theorem law1_List_spec {V : View} {s : Sl} {rs : List RatV} (h : RatsAt V s rs) (hi : ∀ r ∈ rs, ratI r) (hn : rs.length ≤ 2 ^ 32) :
    CallV Try.prog n_law1_List #[s.v] V fun v V' => ∃ r : Sl, v = r.v ∧ NumsAt V' r (rs.map ratQ) := by
  have hl := h.len
  let f : Nat → Cq := fun i => nth (rs.map ratQ) i
  refine law1_List_vc s V _ (fun _ x V' => 0 ≤ x.t11 ∧ x.t11 ≤ s.len ∧ NumsIn V' x.o8 (filled s.len x.t11.toNat f)) (fun _ x _ => s.len - x.t11.toNat)
    ⟨⟨by omega, by omega, by omega, by omega⟩, ⟨by simp, by simp, ?_⟩, ?_⟩
  · simp only [Int.toNat_zero, filled_zero, Int.toNat_natCast]; exact NumsIn.zeros _ _
  rintro ⟨t, o⟩ V1 l1 ⟨h0, h1, ho⟩
  simp only at h0 h1 ho ⊢
  refine ⟨fun hlt => ?_, fun hge => ?_⟩
  · simp only [decide_eq_true_eq] at hlt
    have hk : t.toNat < rs.length := by omega
    obtain ⟨hb, x, hx, _, hh, hs⟩ := (h.le l1).get h0 (z := rs[t.toNat]) (by simp [hk])
    refine ⟨hb, rs[t.toNat], hx ▸ hh, hs, (law1_Of_spec (hi _ (List.getElem_mem _))).mono fun v V2 l2 ⟨r, hv, hr⟩ => ⟨r, hv, ⟨h0, by simpa using hlt⟩, ?_, ?_⟩⟩
    · exact Cells.room ho (by rw [filled_length (by omega)]; omega)
    · have e : IntKind.i64.wrap (t + 1) = t + 1 := i64w (by omega) (by omega)
      have e2 : (t + 1).toNat = t.toNat + 1 := by omega
      have ef : f t.toNat = ratQ rs[t.toNat] := by simp [f, nth, List.getD, hk]
      refine ⟨⟨by rw [e]; omega, by rw [e]; omega, ?_⟩, by simp only [e, e2]; omega⟩
      simp only [e, e2]
      rw [← filled_set (by omega), ef]
      exact (ho.le l2).set (by rw [filled_length (by omega)]; omega) hr
  · simp only [decide_eq_false_iff_not] at hge
    intro b V3 l3 hb
    have e : t.toNat = s.len := by omega
    rw [e, filled_all] at ho
    have e2 : (List.range s.len).map f = rs.map ratQ := by
      have := list_of_nth (rs.map ratQ)
      rw [List.length_map] at this
      rw [hl]; exact this
    rw [e2] at ho
    exact ⟨_, rfl, ListAt.of_made hb (ho.le l3) (by simp [hl])⟩

theorem oneCell_num (r : NumV) : ∀ v ∈ [Value.bool r.re.neg, r.re.mag.v, Value.bool r.im.neg, r.im.mag.v, r.under.v], Value.oneCell' v = true := by
  intro v hv
  simp only [List.mem_cons, List.not_mem_nil, or_false] at hv
  rcases hv with rfl | rfl | rfl | rfl | rfl <;> rfl

theorem has_block {V : View} {b : Nat} {l : List Value} (h : V b = some l.toArray) : V.has (some (Addr.mk b 0 none)) l := by
  intro j v hj
  rw [load_block h]; simpa using hj

theorem transform_every_spec {V : View} {s : Sl} {zs : List Cq} {a : Int} (h : NumsAt V s zs) (ha : 0 ≤ a) (ha1 : a ≤ 1) (hn : zs.length ≤ 2 ^ 32) (hn1 : 1 ≤ zs.length) :
    CallV Try.prog n_transform_every_num_Num_ #[s.v, .int .i64 a] V fun v V' => ∃ r : Sl, v = r.v ∧ NumsAt V' r (everyF zs a.toNat) := by
  have hl := h.len
  refine transform_every_num_Num__vc s a V _ (fun _ x V' => ∃ l, x.t6 = a + 2 * x.t5l ∧ 2 * x.t5l + a.toNat ≤ zs.length + 1 ∧ LstOk 5 x.t5l x.t5c x.o5 l ∧ NumsIn V' l ((List.range x.t5l).map fun k => nth zs (a.toNat + 2 * k)))
    (fun _ x _ => zs.length + 2 - 2 * x.t5l) ⟨⟨[], by simp, by simp; omega, LstOk.nil, rfl⟩, ?_⟩
  rintro ⟨n, c, t, o⟩ V1 l1 ⟨l, ht, hm, hlo, hin⟩
  simp only at ht hm hlo hin ⊢
  refine ⟨fun hlt => ?_, fun hge => ?_⟩
  · simp only [decide_eq_true_eq] at hlt
    obtain ⟨hb, x, hx, hs, hnx⟩ := (h.le l1).get (t := t) (by omega) (by omega)
    refine ⟨hb, x, hx, hs, fun b V2 l2 hf hV2 => ?_⟩
    refine ⟨l, _, hlo, has_block (l := [.bool x.re.neg, x.re.mag.v, .bool x.im.neg, x.im.mag.v, x.under.v]) hV2, rfl, oneCell_num x, ?_, ?_, fun c1 l3 hl3 => ?_⟩
    · simp only [maxLen]; omega
    · omega
    · have e : IntKind.i64.wrap (t + 2) = t + 2 := i64w (by omega) (by omega)
      refine ⟨⟨_, by rw [e]; simp; omega, by omega, hl3, ?_⟩, by omega⟩
      rw [← push_range]
      have e3 : a.toNat + 2 * n = t.toNat := by omega
      rw [e3]
      exact (hin.le l2).push (hnx.le l2)
  · simp only [decide_eq_false_iff_not] at hge
    intro b V3 l3 hb
    refine ⟨_, rfl, ?_⟩
    have e : n = (zs.length + 1 - a.toNat) / 2 := by omega
    unfold everyF
    rw [← e]
    exact ListAt.of_lst hlo hb (hin.le l3) (by simp)

theorem transform_stage_owned : ∀ (m : Nat) {V : View} {p w : Sl} {zs ws : List Cq} (S T : Nat), m ≤ 6 → zs.length = 2 ^ m → ws.length = 2 ^ m → NumsAt V p zs → NumsAt V w ws →
    (∀ i, i < 2 ^ m → (nth zs i).sz ≤ S) → (∀ i, i < 2 ^ m → (nth ws i).sz ≤ T) → 2 ^ m * (S + T + 2) ≤ 2 ^ 39 →
    CallO Try.prog n_transform_stage_num_Num_ #[p.v, w.v] TN_num_Num V fun n cap l rest V' => n = (stageF m zs ws).length ∧ cap = n ∧ rest = [] ∧ NumsIn V' l (stageF m zs ws)
  | m, V, p, w, zs, ws, S, T, hm, hz, hw, hp, hq, hS, hT, hsz => by
    have hpl := hp.len
    have hwl := hq.len
    have hpow : 2 ^ m ≤ 64 := Nat.pow_le_pow_right (n := 2) (by omega) hm
    have hpos : 0 < 2 ^ m := Nat.pow_pos (by omega)
    rw [stageF_length]
    refine transform_stage_num_Num__vc p w V _ (fun c x V' => ∃ m' zs' ws', m = m' + 1 ∧ zs' = stageF m' (everyF zs 0) (everyF ws 0) ∧ ws' = stageF m' (everyF zs 1) (everyF ws 0) ∧
        NumsAt V' c.t8 zs' ∧ NumsAt V' c.t9 ws' ∧ 0 ≤ x.t36 ∧ x.t36 ≤ (2 ^ m' : Nat) ∧
        NumsIn V' x.o15 (halves (2 ^ m') x.t36.toNat (fun i => nth zs' i + nth ws' i * nth ws i) (fun i => nth zs' i - nth ws' i * nth ws i)))
      (fun _ x _ => 2 ^ m - x.t36.toNat) ⟨⟨by omega, by omega, by omega, by omega⟩, fun h1 => ?_, fun h1 => ?_⟩
    · have h1 : p.len = 1 := by have : (p.len : Int) = 1 := (by simpa using h1); omega
      have hm0 : m = 0 := by
        rcases Nat.eq_zero_or_pos m with h | h
        · exact h
        · have : 2 ^ 1 ≤ 2 ^ m := Nat.pow_le_pow_right (by omega) h
          omega
      subst hm0
      obtain ⟨hb, x, hx, hs, hnx⟩ := hp.get (t := 0) (by omega) (by simp [hz])
      have hset := (NumsIn.zeros V 1).set (i := 0) (by simp) hnx
      refine ⟨hb, x, hx, hs, ⟨by omega, by omega⟩, ?_, ?_, ?_⟩
      · simp [h1]
      · refine ⟨by simp [h1], ?_⟩
        intro e
        have h5 := Cells.length hset
        simp only [h1] at e
        have h6 : (0 : Nat) = 5 := (congrArg List.length e).symm.trans h5
        omega
      · refine ⟨by simp [h1], rfl, rfl, ?_⟩
        simp only [h1]
        exact hset
    · have h1 : p.len ≠ 1 := by intro e; simp [e] at h1
      obtain ⟨m', rfl⟩ : ∃ m', m = m' + 1 := ⟨m - 1, by rcases Nat.eq_zero_or_pos m with h | h; · subst h; simp at hz; omega
                                                        · omega⟩
      have hp2 : 2 ^ (m' + 1) = 2 * 2 ^ m' := by rw [Nat.pow_succ]; omega
      have hmul : 2 ^ (m' + 1) * (S + T + 2) = 2 * (2 ^ m' * (S + T + 2)) := by rw [hp2, Nat.mul_assoc]
      have bz : ∀ a, a ≤ 1 → ∀ i, i < 2 ^ m' → (nth (everyF zs a) i).sz ≤ S := by
        intro a ha i hi; rw [everyF_nth (by omega)]; exact hS _ (by omega)
      have bw : ∀ i, i < 2 ^ m' → (nth (everyF ws 0) i).sz ≤ T := by
        intro i hi; rw [everyF_nth (by omega)]; exact hT _ (by omega)
      refine (transform_every_spec hq (Int.le_refl 0) (by omega) (by omega) (by omega)).mono fun v V1 l1 ⟨r1, hv, hr1⟩ => ⟨r1, hv, ?_⟩
      refine (transform_every_spec (hp.le l1) (Int.le_refl 0) (by omega) (by omega) (by omega)).mono fun v V2 l2 ⟨r2, hv, hr2⟩ => ⟨r2, hv, ?_⟩
      have ne : ∀ zs ws, stageF m' zs ws ≠ [] := by
        intro zs ws e
        have := stageF_length m' zs ws
        rw [e] at this; simp at this
        have : 0 < 2 ^ m' := Nat.pow_pos (by omega)
        omega
      refine (CallO.nums (ne _ _) (transform_stage_owned m' S T (by omega) (by simp [everyF_length]; omega) (by simp [everyF_length]; omega) hr2 (hr1.le l2) (bz 0 (by omega)) bw (by omega))).mono fun v V3 l3 ⟨r3, hv, hr3⟩ => ⟨r3, hv, ?_⟩
      refine (transform_every_spec (hp.le (View.le_trans l1 (View.le_trans l2 l3))) (a := 1) (by omega) (by omega) (by omega) (by omega)).mono fun v V4 l4 ⟨r4, hv, hr4⟩ => ⟨r4, hv, ?_⟩
      refine (CallO.nums (ne _ _) (transform_stage_owned m' S T (by omega) (by simp [everyF_length]; omega) (by simp [everyF_length]; omega) hr4 (hr1.le (View.le_trans l2 (View.le_trans l3 l4))) (bz 1 (by omega)) bw (by omega))).mono fun v V5 l5 ⟨r5, hv, hr5⟩ => ⟨r5, hv, ?_⟩
      have le5 : View.le V V5 := View.le_trans l1 (View.le_trans l2 (View.le_trans l3 (View.le_trans l4 l5)))
      have hdiv : IntKind.i64.wrap (Int.tdiv (p.len : Int) 2) = ((2 ^ m' : Nat) : Int) := by
        have e : Int.tdiv (p.len : Int) 2 = ((2 ^ m' : Nat) : Int) := by
          rw [Int.tdiv_eq_ediv_of_nonneg (by omega)]; omega
        rw [e]; exact i64w (by omega) (by omega)
      rw [hdiv]
      refine ⟨⟨m', _, _, rfl, rfl, rfl, hr3.le (View.le_trans l4 l5), hr5, Int.le_refl 0, Int.natCast_nonneg _, ?_⟩, ?_⟩
      · simp only [Int.toNat_zero, halves_zero, Int.toNat_natCast, hpl, hz, hp2]
        exact NumsIn.zeros _ _
      rintro ⟨t, o⟩ V6 l6 ⟨m2, zs', ws', em, rfl, rfl, h8, h9, h0, h1', hin⟩
      have em : m' = m2 := by omega
      subst em
      simp only at h8 h9 h0 h1' hin ⊢
      have lz := stageF_length m' (everyF zs 0) (everyF ws 0)
      have lw := stageF_length m' (everyF zs 1) (everyF ws 0)
      have l8 := h8.len
      have l9 := h9.len
      have lo : ∀ k a b, (halves (2 ^ m') k a b).length = 2 * 2 ^ m' := by intro k a b; simp [halves]
      refine ⟨fun hlt => ?_, fun hge => ?_⟩
      · simp only [decide_eq_true_eq] at hlt
        have hk : t.toNat < 2 ^ m' := by omega
        obtain ⟨hb4, x4, hx4, hs4, hn4⟩ := h9.get h0 (by omega)
        obtain ⟨hb5, x5, hx5, hs5, hn5⟩ := (hq.le (View.le_trans le5 l6)).get h0 (by omega)
        have sE := stageF_sz m' (everyF zs 0) (everyF ws 0) S T (by simp [everyF_length]; omega) (by simp [everyF_length]; omega) (bz 0 (by omega)) bw t.toNat hk
        have sO := stageF_sz m' (everyF zs 1) (everyF ws 0) S T (by simp [everyF_length]; omega) (by simp [everyF_length]; omega) (bz 1 (by omega)) bw t.toNat hk
        have sW := hT t.toNat (by omega)
        have hm2 : S + T + 2 ≤ 2 ^ m' * (S + T + 2) := Nat.le_mul_of_pos_left _ (Nat.pow_pos (by omega))
        have sU := Cq.sz_mul (nth (stageF m' (everyF zs 1) (everyF ws 0)) t.toNat) (nth ws t.toNat)
        refine ⟨hb4, x4, hx4, hs4, hb5, x5, hx5, hs5, (Num_Mul_spec hn4 hn5 (by omega) (by omega)).mono fun v V7 l7 ⟨r6, hv, hr6⟩ => ⟨r6, hv, ?_⟩⟩
        obtain ⟨hb6, x6, hx6, hs6, hn6⟩ := (h8.le l7).get h0 (by omega)
        refine ⟨hb6, x6, hx6, hs6, hb6, x6, hx6, hs6, (Num_Add_spec hn6 hr6 (by omega) (by omega)).mono fun v V8 l8' ⟨r7, hv, hr7⟩ => ⟨r7, hv, ?_⟩⟩
        refine (Num_Sub_spec (hn6.le l8') (hr6.le l8') (by omega) (by omega)).mono fun v V9 l9' ⟨r8, hv, hr8⟩ => ⟨r8, hv, ⟨h0, ?_⟩, ?_, ?_⟩
        · omega
        · exact Cells.room hin (by rw [lo]; omega)
        have ek : IntKind.i64.wrap (t + ((2 ^ m' : Nat) : Int)) = t + ((2 ^ m' : Nat) : Int) := i64w (by omega) (by omega)
        have ek2 : Int.toNat (t + ((2 ^ m' : Nat) : Int)) = t.toNat + 2 ^ m' := by omega
        have et : IntKind.i64.wrap (t + 1) = t + 1 := i64w (by omega) (by omega)
        have et2 : (t + 1).toNat = t.toNat + 1 := by omega
        rw [ek, ek2]
        have in9 := hin.le (View.le_trans l7 (View.le_trans l8' l9'))
        have s1 := in9.set (i := t.toNat) (by rw [lo]; omega) (hr7.le l9')
        have s2 := s1.set (i := t.toNat + 2 ^ m') (by rw [List.length_set, lo]; omega) hr8
        refine ⟨⟨by omega, by omega⟩, ?_, ⟨m', _, _, rfl, rfl, rfl, h8.le (View.le_trans l7 (View.le_trans l8' l9')), h9.le (View.le_trans l7 (View.le_trans l8' l9')), by rw [et]; omega, by rw [et]; omega, ?_⟩, by simp only [et, et2]; omega⟩
        · exact Cells.room s1 (by rw [List.length_set, lo]; omega)
        · simp only [et, et2]
          rw [← halves_set hk]
          exact s2
      · simp only [decide_eq_false_iff_not] at hge
        have e : t.toNat = 2 ^ m' := by omega
        rw [e] at hin
        have e2 : halves (2 ^ m') (2 ^ m') (fun i => nth (stageF m' (everyF zs 0) (everyF ws 0)) i + nth (stageF m' (everyF zs 1) (everyF ws 0)) i * nth ws i)
            (fun i => nth (stageF m' (everyF zs 0) (everyF ws 0)) i - nth (stageF m' (everyF zs 1) (everyF ws 0)) i * nth ws i) = stageF (m' + 1) zs ws := by
          have h2 := list_of_nth (stageF (m' + 1) zs ws)
          rw [stageF_length] at h2
          rw [← h2]
          unfold halves
          rw [← hp2]
          apply List.map_congr_left
          intro i hi
          have hi : i < 2 ^ (m' + 1) := by simpa using hi
          rw [stageF, nth_map hi]
          split
          · rfl
          · rw [if_pos (by omega)]
        rw [e2] at hin
        refine ⟨⟨by omega, ?_⟩, by omega, by simp, by simp, hin⟩
        intro eo
        subst eo
        have := Cells.length hin
        rw [stageF_length] at this
        simp at this; omega
end Go.Proofs.Ytnbjnokgmeamdaa

namespace Go.Proofs.Ytnbjnokgmeamdaa
open Go Go.Vc Go.Proofs Go.ChangeShapes Go.RowKit

/-- What is to be known of the type of plain numbers. -/
structure RatTy (P : Program) (t : TypeId) : Prop where
  fields : ∃ f0 f1 f2 : Field, P.underlying t = some (.struct #[f0, f1, f2]) ∧ (f0.offset = 0 ∧ f1.offset = 1 ∧ f2.offset = 2) ∧
    (P.underlying f0.type = some (.int .i64) ∧ P.underlying f1.type = some (.int .i64) ∧ P.underlying f2.type = some (.int .i64)) ∧ (P.cellsOf f0.type = 1 ∧ P.cellsOf f1.type = 1 ∧ P.cellsOf f2.type = 1)
  cells : P.cellsOf t = 3

section
variable {H : Type} {enc : TypeId × Value → H} {P : Program} {w : World} {base : Nat} {spare : Nat → Bool} {held : Bool}

theorem trod_rat {t : TypeId} {fuel : Nat} {cs : List Value} {x : DataW H × List MemPlace} (ht : RatTy P t) (h : DataW.trod enc P w base spare held fuel t cs = some x) : ∃ r : RatV, ratI r ∧ cs = r.val.cells.toList := by
  obtain ⟨f0, f1, f2, hR, ⟨o0, o1, o2⟩, ⟨i0, i1, i2⟩, c0, c1, c2⟩ := ht.fields
  obtain ⟨xs, n, _, _, hl, hxs, hf⟩ := DataW.trod_struct hR h
  rw [ht.cells] at hl
  match cs, hl with
  | [a, b, c], _ =>
    have g0 := hf 0 f0 rfl
    have g1 := hf 1 f1 rfl
    have g2 := hf 2 f2 rfl
    rw [o0, c0] at g0
    rw [o1, c1] at g1
    rw [o2, c2] at g2
    have hs : xs.length = 3 := hxs
    match xs, hs with
    | [y0, y1, y2], _ =>
      obtain ⟨n0, e0, _, w0⟩ := DataW.trod_int i0 g0
      obtain ⟨n1, e1, _, w1⟩ := DataW.trod_int i1 g1
      obtain ⟨n2, e2, _, w2⟩ := DataW.trod_int i2 g2
      simp at e0 e1 e2
      subst e0; subst e1; subst e2
      exact ⟨⟨n0, n1, n2⟩, ⟨bounds_i64 w0, bounds_i64 w1, bounds_i64 w2⟩, rfl⟩

/-- The block of an argument, known. -/
def blockView (w : World) (b : Nat) : View := fun i => if i = b then (match w.heap[b]? with | some (.cells cs _ _) => some cs | _ => none) else none
theorem blockView_in (w : World) (b : Nat) : (blockView w b).In w := by
  intro i cs hi
  unfold blockView at hi
  split at hi
  · rename_i e; subst e
    split at hi
    · rename_i cs' T fr hw
      simp at hi; subst hi
      exact ⟨T, fr, hw⟩
    · simp at hi
  · simp at hi
theorem blockView_load {w : World} {p : Addr} {v : Value} (h : w.cell? p = some v) : (blockView w p.block).load (some p) = some v := by
  unfold World.cell? at h
  unfold View.load blockView
  split at h
  · rename_i c T fr hw
    simp only [hw, if_true]
    split at h
    · simp at h
    · rename_i hs
      simp only [hs]
      simpa using h
  · simp at h

theorem add_block (a : Addr) (n : Nat) : (a.add n).block = a.block := by unfold Addr.add; split <;> rfl

theorem open_rats {t e : TypeId} {v : Value} {d : DataW H} {ps : List MemPlace} (ht : P.underlying t = some (.slice e)) (he : RatTy P e) (hv : ∃ a l c, v = .slice a l c) (h : DataW.Trod enc P w 0 spare held t v d ps) :
    ∃ (s : Sl) (rs : List RatV) (V : View), v = s.v ∧ V.In w ∧ RatsAt V s rs ∧ rs.length ≤ maxLen ∧ ∀ r ∈ rs, ratI r := by
  obtain ⟨a0, l0, c0, rfl⟩ := hv
  obtain ⟨fuel, h⟩ := h
  rcases Go.Deep.open_slice ht h with ⟨h1, _⟩ | ⟨a, len, cap, m, n, D, Pl, h1, _, hl, hm, hmm, _, hx⟩
  · have h1 : (Value.slice a0 l0 c0) = .slice none 0 0 := by simpa [Value.cells] using h1
    injection h1 with e1 e2 e3
    subst e1; subst e2; subst e3
    exact ⟨Sl.mk none 0 0, [], fun _ => none, rfl, fun b cs hb => by simp at hb, ListAt.nil, Nat.zero_le _, by intro r hr; simp at hr⟩
  · have h1 : (Value.slice a0 l0 c0) = .slice (some a) len cap := by simpa [Value.cells] using h1
    injection h1 with e1 e2 e3
    subst e1; subst e2; subst e3
    have hlm : l0 ≤ m := by rw [hmm]; split <;> omega
    have key : ∀ k, k ≤ l0 → ∃ (rs : List RatV) (o : List Value), rs.length = k ∧ (∀ r ∈ rs, ratI r) ∧ Cells 3 ratC (blockView w a.block) o rs ∧ (blockView w a.block).has (some a) o := by
      intro k
      induction k with
      | zero => intro _; exact ⟨[], [], rfl, by intro r hr; simp at hr, rfl, by intro j v hj; simp at hj⟩
      | succ k ih =>
        intro hk
        obtain ⟨rs, o, hrl, hri, hc, ho⟩ := ih (by omega)
        obtain ⟨cs', g1, g2⟩ := hx k (by omega)
        obtain ⟨r, hr, er⟩ := trod_rat he g2
        rw [he.cells] at g1
        obtain ⟨_, hcl, hcell⟩ := World.cells?_some g1
        have hol := hc.length
        refine ⟨rs ++ [r], o ++ cs', by simp [hrl], ?_, hc.append (Cells.one hcl er), ?_⟩
        · intro x hx
          rcases List.mem_append.1 hx with h | h
          · exact hri x h
          · simp at h; subst h; exact hr
        · intro j v hj
          by_cases hjo : j < o.length
          · rw [List.getElem?_append_left hjo] at hj
            exact ho j v hj
          · rw [List.getElem?_append_right (by omega)] at hj
            have hj3 : j - o.length < 3 := by
              rcases Nat.lt_or_ge (j - o.length) cs'.length with h | h
              · omega
              · rw [List.getElem?_eq_none h] at hj; simp at hj
            have hcj := hcell (j - o.length) hj3
            rw [hj, addr_add2] at hcj
            have e : k * 3 + (j - o.length) = j := by rw [hol, hrl]; omega
            rw [e] at hcj
            have := blockView_load hcj
            rw [add_block] at this
            exact this
    obtain ⟨rs, o, hrl, hri, hc, ho⟩ := key l0 (Nat.le_refl _)
    exact ⟨Sl.mk (some a) l0 c0, rs, blockView w a.block, rfl, blockView_in w a.block, ⟨hrl.symm, hl, fun _ => rfl, o, ho, hc⟩, by omega, hri⟩
end

/-- A call whose answer is known in a world that fits. -/
theorem CallV.fits {P : Program} {f : FuncId} {args : Array Value} {r : Value} {V : View} (h : CallV P f args V fun v _ => v = r) {w : World} (hw : V.In w) :
    Calls P f args w fun e w' => e = .returned r ∧ Below w.heap.size w w' :=
  (h w hw).mono fun _ _ ⟨_, _, he, _, _, _, hb, hr⟩ => ⟨by rw [he, hr], hb⟩

theorem trodAll_below {H : Type} {enc : TypeId × Value → H} {P : Program} (hl : laidOutB P = true) {W W' : World} (hb : Below W.heap.size W W') :
    ∀ {ts : List TypeId} {vs : List Value} {ds : List (DataW H)} {ps : List MemPlace}, (∀ t ∈ ts, P.readableRec t = true ∧ t < P.types.size) → (∀ p ∈ ps, p.block < W.heap.size) →
    DataW.TrodAll enc P W 0 (fun _ => true) true ts vs ds ps → DataW.TrodAll enc P W' 0 (fun b => decide (b < W.heap.size)) true ts vs ds ps
  | [], [], [], _, _, _, h => h
  | t :: ts, v :: vs, d :: ds, ps, ht, hlt, ⟨p, q, h1, h2, e⟩ => by
    subst e
    exact ⟨p, q, Below.trod hl (ht t (by simp)).1 (ht t (by simp)).2 h1 hb (fun x hx => hlt x (by simp [hx])),
      trodAll_below hl hb (fun t' ht' => ht t' (by simp [ht'])) (fun x hx => hlt x (by simp [hx])) h2, rfl⟩
  | [], [], _ :: _, _, _, _, h => h.elim
  | [], _ :: _, _, _, _, _, h => h.elim
  | _ :: _, [], _, _, _, _, h => h.elim
  | _ :: _, _ :: _, [], _, _, _, h => h.elim

/-- What is to be shown of a run that only read its arguments. -/
theorem post_of_read {H : Type} {enc : TypeId × Value → H} {P : Program} {f : Func} {s : ChangeSpec} {apart fresh handsOn : Bool} {W W' : World} {args : Array Value} {v : Value} {ds : List (DataW H)} {before : List MemPlace}
    (hl : laidOutB P = true) (ht : ∀ t ∈ f.params.toList, P.readableRec t = true ∧ t < P.types.size)
    (hW : DataW.Whole enc P f.params.toList s.vars apart W args.toList ds [] before) (hA : DataW.TrodAll enc P W 0 (fun _ => true) true f.params.toList args.toList ds before)
    (hres : ∀ (b : Nat) (sp : Nat → Bool) (hd : Bool), DataW.TrodAll enc P W' b sp hd f.resultTypes.toList (v.resultList f.resultTypes.size) (s.fn H (ds ++ [])).results [])
    (hargs : (s.fn H (ds ++ [])).args = ds) (hvars : ∀ sp : Nat → Bool, DataW.TrodVars enc P W' sp s.vars (s.fn H (ds ++ [])).vars []) (hb : Below W.heap.size W W') : s.post enc P f apart fresh handsOn false W args v W' := by
  refine ⟨ds, [], before, [], before, [], hW, hres _ _ _, ?_, hvars _, World.keptBut_mono (fun p hp => ⟨hp, .inr (.inl hp)⟩) (hb.frame (· ∈ before)), fun h => Bool.noConfusion h⟩
  rw [hargs]
  exact trodAll_below hl hb ht (fun p hp => hW.lt p hp) hA
end Go.Proofs.Ytnbjnokgmeamdaa

set_option maxRecDepth 100000
set_option maxHeartbeats 4000000
namespace Go.Proofs.Ytnbjnokgmeamdaa
open Go Go.Vc Go.Proofs

/-- waveport/waveportlaw07.TransformParts -/
theorem waveportlaw07_TransformParts_vc (p0 : Sl) (p1 : Int) (p2 : Int) (p3 : Int) (V : View) (R : Value → View → Prop) 
  (h :
    ((decide (((p0.len : Int) : Int) > 16)) = true →
      CallV Try.prog 16 #[] V fun v V1 => ∃ r1 : Bool, v = .bool r1 ∧ -- waveportlaw07.awake
      R (.bool r1) V1) ∧
    ((decide (((p0.len : Int) : Int) > 16)) = false →
      (0 : Int) ≤ (Int.tmod p1 5) ∧
    CallV Try.prog 20 #[p0.v, .int .i64 (IntKind.i64.wrap (1 * 2 ^ (min (Int.toNat (Int.tmod p1 5)) (IntKind.bits .i64))))] V fun v V2 => ∃ r2 : Sl, v = r2.v ∧ -- waveportlaw07.repeated
    CallV Try.prog 19 #[r2.v] V2 fun v V3 => ∃ r3 : Sl, v = r3.v ∧ -- waveportlaw01.List
    ((IntKind.i64.wrap (1 * 2 ^ (min (Int.toNat (Int.tmod p1 5)) (IntKind.bits .i64)))) : Int) ≠ 0 ∧
    ((IntKind.i64.wrap ((IntKind.i64.wrap (1 * 2 ^ (min (Int.toNat (Int.tmod p1 5)) (IntKind.bits .i64)))) + 1)) : Int) ≠ 0 ∧
    CallV Try.prog 21 #[(GateV.mk (Int.tmod (IntKind.i64.wrap p2) (IntKind.i64.wrap (1 * 2 ^ (min (Int.toNat (Int.tmod p1 5)) (IntKind.bits .i64))))) (Int.tmod (IntKind.i64.wrap p3) (IntKind.i64.wrap ((IntKind.i64.wrap (1 * 2 ^ (min (Int.toNat (Int.tmod p1 5)) (IntKind.bits .i64)))) + 1)))).val, .int .i64 (IntKind.i64.wrap (1 * 2 ^ (min (Int.toNat (Int.tmod p1 5)) (IntKind.bits .i64))))] V3 fun v V4 => ∃ (r4 : GateV) (r5 : Int), v = .tuple #[r4.val, .int .i64 r5] ∧ -- transform.Rest
    CallV Try.prog 22 #[r3.v, (GateV.mk (Int.tmod (IntKind.i64.wrap p2) (IntKind.i64.wrap (1 * 2 ^ (min (Int.toNat (Int.tmod p1 5)) (IntKind.bits .i64))))) (Int.tmod (IntKind.i64.wrap p3) (IntKind.i64.wrap ((IntKind.i64.wrap (1 * 2 ^ (min (Int.toNat (Int.tmod p1 5)) (IntKind.bits .i64)))) + 1)))).val] V4 fun v V5 => ∃ (r6 : Sl) (r7 : Int), v = .tuple #[r6.v, .int .i64 r7] ∧ -- transform.Cut[num.Num]
    CallV Try.prog 22 #[r3.v, r4.val] V5 fun v V6 => ∃ (r8 : Sl) (r9 : Int), v = .tuple #[r8.v, .int .i64 r9] ∧ -- transform.Cut[num.Num]
    (((r5 : Int) != 0) = true →
    R (.bool false) V6) ∧
    (((r5 : Int) != 0) = false →
    (((r7 : Int) != 0) = true →
    R (.bool false) V6) ∧
    (((r7 : Int) != 0) = false →
    (((r9 : Int) != 0) = true →
    R (.bool false) V6) ∧
    (((r9 : Int) != 0) = false →
    ((((r6.len : Int) : Int) != (IntKind.i64.wrap (1 * 2 ^ (min (Int.toNat (Int.tmod p1 5)) (IntKind.bits .i64))))) = true →
    R (.bool false) V6) ∧
    ((((r6.len : Int) : Int) != (IntKind.i64.wrap (1 * 2 ^ (min (Int.toNat (Int.tmod p1 5)) (IntKind.bits .i64))))) = false →
    ((((r8.len : Int) : Int) != (IntKind.i64.wrap (1 * 2 ^ (min (Int.toNat (Int.tmod p1 5)) (IntKind.bits .i64))))) = true →
    R (.bool false) V6) ∧
    ((((r8.len : Int) : Int) != (IntKind.i64.wrap (1 * 2 ^ (min (Int.toNat (Int.tmod p1 5)) (IntKind.bits .i64))))) = false →
    CallV Try.prog 24 #[r6.v, r8.v] V6 fun v V7 => ∃ r10 : Sl, v = r10.v ∧ -- waveportlaw07.plus
    CallV Try.prog 23 #[r10.v, .int .i64 0, r3.v, .int .i64 0] V7 fun v V8 => ∃ r11 : Bool, v = .bool r11 ∧ -- waveportlaw07.are
    ((!r11) = true →
      R (.bool false) V8) ∧
    ((!r11) = false →
      CallV Try.prog 22 #[r6.v, (GateV.mk (Int.tmod (IntKind.i64.wrap p2) (IntKind.i64.wrap (1 * 2 ^ (min (Int.toNat (Int.tmod p1 5)) (IntKind.bits .i64))))) (Int.tmod (IntKind.i64.wrap p3) (IntKind.i64.wrap ((IntKind.i64.wrap (1 * 2 ^ (min (Int.toNat (Int.tmod p1 5)) (IntKind.bits .i64)))) + 1)))).val] V8 fun v V9 => ∃ (r12 : Sl) (r13 : Int), v = .tuple #[r12.v, .int .i64 r13] ∧ -- transform.Cut[num.Num]
    CallV Try.prog 22 #[r3.v, (GateV.mk (Int.tmod (IntKind.i64.wrap p2) (IntKind.i64.wrap (1 * 2 ^ (min (Int.toNat (Int.tmod p1 5)) (IntKind.bits .i64))))) (IntKind.i64.wrap (1 * 2 ^ (min (Int.toNat (Int.tmod p1 5)) (IntKind.bits .i64))))).val] V9 fun v V10 => ∃ (r14 : Sl) (r15 : Int), v = .tuple #[r14.v, .int .i64 r15] ∧ -- transform.Cut[num.Num]
    CallV Try.prog 21 #[r4.val, .int .i64 (IntKind.i64.wrap (1 * 2 ^ (min (Int.toNat (Int.tmod p1 5)) (IntKind.bits .i64))))] V10 fun v V11 => ∃ (r16 : GateV) (r17 : Int), v = .tuple #[r16.val, .int .i64 r17] ∧ -- transform.Rest
    CallV Try.prog 22 #[r3.v, r16.val] V11 fun v V12 => ∃ (r18 : Sl) (r19 : Int), v = .tuple #[r18.v, .int .i64 r19] ∧ -- transform.Cut[num.Num]
    CallV Try.prog 25 #[r3.v, (GateV.mk (Int.tmod (IntKind.i64.wrap p2) (IntKind.i64.wrap (1 * 2 ^ (min (Int.toNat (Int.tmod p1 5)) (IntKind.bits .i64))))) (IntKind.i64.wrap (1 * 2 ^ (min (Int.toNat (Int.tmod p1 5)) (IntKind.bits .i64))))).val, .int .i64 (IntKind.i64.wrap (1 * 2 ^ (min (Int.toNat (Int.tmod p1 5)) (IntKind.bits .i64))))] V12 fun v V13 => ∃ (r20 : Sl) (r21 : Int), v = .tuple #[r20.v, .int .i64 r21] ∧ -- transform.Touched[num.Num]
    CallV Try.prog 23 #[r12.v, .int .i64 r13, r6.v, .int .i64 r7] V13 fun v V14 => ∃ r22 : Bool, v = .bool r22 ∧ -- waveportlaw07.are
    (r22 = true →
    CallV Try.prog 23 #[r14.v, .int .i64 r15, r3.v, .int .i64 0] V14 fun v V15 => ∃ r23 : Bool, v = .bool r23 ∧ -- waveportlaw07.are
    (r23 = true →
    (((r17 : Int) == 0) = true →
    CallV Try.prog 23 #[r18.v, .int .i64 r19, r6.v, .int .i64 r7] V15 fun v V16 => ∃ r24 : Bool, v = .bool r24 ∧ -- waveportlaw07.are
    (r24 = true →
    (((r21 : Int) == 0) = true →
    ((((r20.len : Int) : Int) == 0) = true →
    CallV Try.prog 16 #[] V16 fun v V17 => ∃ r25 : Bool, v = .bool r25 ∧ -- waveportlaw07.awake
    R (.bool r25) V17) ∧
    ((((r20.len : Int) : Int) == 0) = false →
    R (.bool false) V16)) ∧
    (((r21 : Int) == 0) = false →
    R (.bool false) V16)) ∧
    (r24 = false →
    R (.bool false) V16)) ∧
    (((r17 : Int) == 0) = false →
    R (.bool false) V15)) ∧
    (r23 = false →
    R (.bool false) V15)) ∧
    (r22 = false →
    R (.bool false) V14))))))))) :
  CallV Try.prog 5 #[p0.v, .int .u8 p1, .int .u8 p2, .int .u8 p3] V R :=
  calls_of_vc (Shp := Shp) hmixed Try.func5 (c := Try.f5.body.getD .skip) (args := [p0.v, .int .u8 p1, .int .u8 p2, .int .u8 p3]) (by kernel_rfl)
    (.seq (.reg [⟨8, 9, false⟩]) (.seq (.seq (.reg [⟨28, 2, false⟩, ⟨29, 0, false⟩, ⟨30, 0, false⟩]) (.cond (.seq (.reg [⟨31, 10, false⟩, ⟨8, 2, false⟩]) .leaf) .leaf)) (.seq (.reg [⟨32, 2, false⟩, ⟨33, 0, false⟩, ⟨34, 12, false⟩, ⟨9, 2, false⟩]) (.seq (.reg [⟨35, 2, false⟩, ⟨36, 2, false⟩, ⟨37, 10, false⟩, ⟨38, 10, false⟩, ⟨10, 2, false⟩]) (.seq (.draw [(0, ⟨39, 2, false⟩), (1, ⟨40, 0, false⟩), (2, ⟨41, 2, false⟩), (3, ⟨42, 12, false⟩), (4, ⟨43, 2, false⟩), (5, ⟨44, 0, false⟩), (6, ⟨45, 2, false⟩), (7, ⟨46, 0, false⟩), (8, ⟨47, 12, false⟩), (9, ⟨48, 0, false⟩), (10, ⟨11, 3, false⟩), (11, ⟨11, 6, false⟩)] [0, 1, 0, 7, 0, 16, 0, 64, 240, 511, 0, 2047]) (.seq (.reg [⟨11, 4, false⟩, ⟨51, 2, false⟩, ⟨52, 10, false⟩, ⟨49, 2, false⟩, ⟨53, 0, false⟩, ⟨54, 0, false⟩, ⟨12, 3, false⟩, ⟨12, 6, false⟩, ⟨13, 2, false⟩]) (.seq (.reg [⟨56, 2, false⟩, ⟨11, 4, false⟩, ⟨58, 10, false⟩, ⟨55, 2, false⟩, ⟨59, 0, false⟩, ⟨60, 0, false⟩, ⟨14, 2, false⟩, ⟨15, 2, false⟩]) (.seq (.reg [⟨62, 2, false⟩, ⟨12, 4, false⟩, ⟨64, 10, false⟩, ⟨61, 2, false⟩, ⟨65, 0, false⟩, ⟨66, 0, false⟩, ⟨16, 2, false⟩, ⟨17, 2, false⟩]) (.seq (.seq (.reg [⟨67, 2, false⟩, ⟨68, 0, false⟩, ⟨69, 2, true⟩, ⟨70, 2, false⟩, ⟨71, 0, false⟩, ⟨72, 20, false⟩, ⟨73, 2, true⟩, ⟨74, 2, false⟩, ⟨75, 0, false⟩, ⟨76, 20, false⟩, ⟨77, 2, true⟩, ⟨78, 2, false⟩, ⟨79, 0, false⟩, ⟨80, 2, false⟩, ⟨81, 0, false⟩, ⟨82, 20, false⟩, ⟨83, 2, true⟩, ⟨84, 2, false⟩, ⟨85, 0, false⟩, ⟨86, 2, false⟩, ⟨87, 0, false⟩, ⟨88, 20, false⟩, ⟨89, 2, true⟩, ⟨90, 2, false⟩, ⟨91, 2, false⟩, ⟨92, 10, false⟩, ⟨93, 2, false⟩, ⟨94, 10, false⟩, ⟨95, 20, false⟩, ⟨96, 20, false⟩]) (.cond (.seq (.reg [⟨8, 9, false⟩]) .leaf) .leaf)) (.seq (.reg [⟨98, 2, false⟩, ⟨11, 4, false⟩, ⟨100, 10, false⟩, ⟨97, 2, false⟩, ⟨101, 0, false⟩, ⟨102, 0, false⟩, ⟨18, 2, false⟩, ⟨19, 2, false⟩]) (.seq (.reg [⟨104, 2, false⟩, ⟨105, 7, false⟩, ⟨11, 4, false⟩, ⟨107, 2, false⟩, ⟨108, 0, false⟩, ⟨109, 10, false⟩, ⟨103, 2, false⟩, ⟨110, 0, false⟩, ⟨111, 0, false⟩, ⟨20, 2, false⟩, ⟨21, 2, false⟩]) (.seq (.reg [⟨12, 4, false⟩, ⟨114, 2, false⟩, ⟨115, 10, false⟩, ⟨112, 2, false⟩, ⟨116, 0, false⟩, ⟨117, 0, false⟩, ⟨22, 3, false⟩, ⟨22, 6, false⟩, ⟨23, 2, false⟩]) (.seq (.reg [⟨119, 2, false⟩, ⟨22, 4, false⟩, ⟨121, 10, false⟩, ⟨118, 2, false⟩, ⟨122, 0, false⟩, ⟨123, 0, false⟩, ⟨24, 2, false⟩, ⟨25, 2, false⟩]) (.seq (.reg [⟨125, 2, false⟩, ⟨126, 7, false⟩, ⟨11, 4, false⟩, ⟨128, 2, false⟩, ⟨129, 0, false⟩, ⟨130, 2, false⟩, ⟨131, 10, false⟩, ⟨124, 2, false⟩, ⟨132, 0, false⟩, ⟨133, 0, false⟩, ⟨26, 2, false⟩, ⟨27, 2, false⟩]) (.seq (.reg [⟨134, 2, false⟩, ⟨135, 2, false⟩, ⟨136, 2, false⟩, ⟨137, 2, false⟩, ⟨138, 10, false⟩, ⟨139, 2, true⟩, ⟨140, 2, false⟩, ⟨141, 2, false⟩, ⟨142, 2, false⟩, ⟨143, 10, false⟩, ⟨144, 20, false⟩, ⟨145, 2, true⟩, ⟨146, 2, false⟩, ⟨147, 0, false⟩, ⟨148, 20, false⟩, ⟨149, 2, true⟩, ⟨150, 2, false⟩, ⟨151, 2, false⟩, ⟨152, 2, false⟩, ⟨153, 2, false⟩, ⟨154, 10, false⟩, ⟨155, 20, false⟩, ⟨156, 2, true⟩, ⟨157, 2, false⟩, ⟨158, 0, false⟩, ⟨159, 20, false⟩, ⟨160, 2, true⟩, ⟨161, 2, false⟩, ⟨162, 0, false⟩, ⟨163, 0, false⟩, ⟨164, 20, false⟩, ⟨165, 2, true⟩, ⟨166, 10, false⟩, ⟨167, 20, false⟩, ⟨8, 2, false⟩]) .leaf)))))))))))))))
    (Eq.mpr (by kernel_rfl) h)

end Go.Proofs.Ytnbjnokgmeamdaa

set_option maxRecDepth 100000
set_option maxHeartbeats 4000000
namespace Go.Proofs.Ytnbjnokgmeamdaa
open Go Go.Vc Go.Proofs

structure L_transform_Touched_num_Num__1_0 where
  t6 : Int
def transform_Touched_num_Num__1_f0 (p0 : Int) (p1 : Option Addr) (p2 : Option Addr) (p3 : Option Addr) (_c : Unit) (w x : L_transform_Touched_num_Num__1_0) : Prop := (Q1 (.val (.int .i64 p0)) ∧ Q1 (.val (.pointer p1)) ∧ Q1 (.val (.pointer p2)) ∧ Q1 (.val (.pointer p3)) ∧ E2 (.val (.int .i64 w.t6)) (.val (.int .i64 x.t6)) ∧ True) ∧ (True)
def transform_Touched_num_Num__1_sk (p0 : Int) (p1 : Option Addr) (p2 : Option Addr) (p3 : Option Addr) (V : View) (R : Value → View → Prop) (I0 : Unit → L_transform_Touched_num_Num__1_0 → View → Prop) (E0 : Unit → L_transform_Touched_num_Num__1_0 → View → Prop) (B0 : Unit → L_transform_Touched_num_Num__1_0 → View → L_transform_Touched_num_Num__1_0 → View → Prop) : Prop :=
    E0 () (L_transform_Touched_num_Num__1_0.mk 1) V ∧
    (∀ (x2 : L_transform_Touched_num_Num__1_0) (V1 : View), View.le V V1 → I0 () x2 V1 →
      ∃ x3 : Int, View.load V1 p1 = some (.int .i64 x3) ∧
      ∃ x4 : Int, View.load V1 p2 = some (.int .i64 x4) ∧
      ((decide ((x2.t6 : Int) ≤ (if (x4 : Int) < x3 then x4 else x3))) = true →
        ∃ x5 : Sl, View.load V1 p3 = some (x5.v) ∧
      ∃ x6 : Int, View.load V1 p2 = some (.int .i64 x6) ∧
      (x6 : Int) ≠ 0 ∧
      ((0 : Int) ≤ (Int.tmod (IntKind.i64.wrap (p0 + x2.t6)) x6) ∧ ((Int.tmod (IntKind.i64.wrap (p0 + x2.t6)) x6) : Int) < (x5.len : Nat) ∧ Option.isSome x5.a = true) ∧
      ∃ x7 : Bool, View.load V1 (Option.map (fun q => Addr.add q (Int.toNat (Int.tmod (IntKind.i64.wrap (p0 + x2.t6)) x6) * 1)) x5.a) = some (.bool x7) ∧
      (x7 = true →
      R (.bool true) V1) ∧
      (x7 = false →
      ∃ x8 : Sl, View.load V1 p3 = some (x8.v) ∧
      ∃ x9 : Int, View.load V1 p2 = some (.int .i64 x9) ∧
      ∃ x10 : Int, View.load V1 p2 = some (.int .i64 x10) ∧
      (x10 : Int) ≠ 0 ∧
      ((0 : Int) ≤ (Int.tmod (IntKind.i64.wrap ((IntKind.i64.wrap (p0 + (IntKind.i64.wrap (x9 * x2.t6)))) - x2.t6)) x10) ∧ ((Int.tmod (IntKind.i64.wrap ((IntKind.i64.wrap (p0 + (IntKind.i64.wrap (x9 * x2.t6)))) - x2.t6)) x10) : Int) < (x8.len : Nat) ∧ Option.isSome x8.a = true) ∧
      ∃ x11 : Bool, View.load V1 (Option.map (fun q => Addr.add q (Int.toNat (Int.tmod (IntKind.i64.wrap ((IntKind.i64.wrap (p0 + (IntKind.i64.wrap (x9 * x2.t6)))) - x2.t6)) x10) * 1)) x8.a) = some (.bool x11) ∧
      (x11 = true →
        R (.bool true) V1) ∧
      (x11 = false →
        B0 () (L_transform_Touched_num_Num__1_0.mk (IntKind.i64.wrap (x2.t6 + 1))) V1 x2 V1))) ∧
      ((decide ((x2.t6 : Int) ≤ (if (x4 : Int) < x3 then x4 else x3))) = false →
        R (.bool false) V1))

theorem transform_Touched_num_Num__1_v0 (p0 : Int) (p1 : Option Addr) (p2 : Option Addr) (p3 : Option Addr) (V : View) (R : Value → View → Prop) (I0 : Unit → L_transform_Touched_num_Num__1_0 → View → Prop) (J0 : Unit → L_transform_Touched_num_Num__1_0 → View → Nat) {X : Prop} (e : transform_Touched_num_Num__1_sk p0 p1 p2 p3 V R I0 I0 (fun c w V x U => I0 c w V ∧ J0 c w V < J0 c x U) = X) (h : X) :
  CallV Try.prog 61 #[.int .i64 p0, .pointer p1, .pointer p2, .pointer p3] V R :=
  calls_of_vc (Shp := Shp) hmixed Try.func61 (c := Try.f61.body.getD .skip) (args := [.int .i64 p0, .pointer p1, .pointer p2, .pointer p3]) (by kernel_rfl)
    (.seq (.reg [⟨5, 9, false⟩]) (.seq (.seq (.reg [⟨6, 2, false⟩]) (.block (.loop Unit L_transform_Touched_num_Num__1_0 (fun _ => ()) (fun c x => { tm := spT 36 0 [(0, .val (.int .i64 p0)), (1, .val (.pointer p1)), (2, .val (.pointer p2)), (3, .val (.pointer p3)), (6, .val (.int .i64 x.t6))], own := spO 36 0 [] }) I0 J0 (.seq (.seq (.reg [⟨7, 2, false⟩, ⟨8, 5, false⟩, ⟨9, 5, false⟩, ⟨10, 0, false⟩, ⟨11, 0, false⟩]) (.cond .leaf .leaf)) (.seq (.block (.seq (.draw [(0, ⟨14, 5, false⟩), (1, ⟨15, 2, false⟩), (2, ⟨16, 2, false⟩), (3, ⟨17, 0, false⟩), (4, ⟨18, 5, false⟩), (5, ⟨19, 12, false⟩), (6, ⟨20, 7, false⟩), (7, ⟨21, 5, false⟩), (8, ⟨22, 2, true⟩), (9, ⟨23, 5, false⟩), (10, ⟨24, 2, false⟩), (11, ⟨25, 5, false⟩), (12, ⟨26, 2, false⟩), (13, ⟨27, 0, false⟩), (14, ⟨28, 0, false⟩), (15, ⟨29, 2, false⟩), (16, ⟨30, 0, false⟩), (17, ⟨31, 5, false⟩), (18, ⟨32, 12, false⟩), (19, ⟨33, 7, false⟩), (20, ⟨34, 5, false⟩), (21, ⟨35, 20, false⟩)] [0, 0, 0, 6, 0, 30, 63, 127, 255, 511, 511, 511, 511, 6655, 15871, 511, 65023, 511, 261631, 524287, 1048575, 2097151]) (.cond (.seq (.reg [⟨5, 9, false⟩]) .leaf) .leaf))) (.reg [⟨12, 2, false⟩, ⟨13, 0, false⟩, ⟨6, 2, false⟩])))))) (.seq (.reg [⟨5, 9, false⟩]) .leaf)))
    (Eq.mpr (by kernel_rfl) (show transform_Touched_num_Num__1_sk p0 p1 p2 p3 V R I0 (fun c w V => ∃ x, transform_Touched_num_Num__1_f0 p0 p1 p2 p3 c w x ∧ I0 c x V) (fun c w V y U => ∃ x, transform_Touched_num_Num__1_f0 p0 p1 p2 p3 c w x ∧ I0 c x V ∧ J0 c x V < J0 c y U) from by
    have h := Eq.mpr e h; unfold transform_Touched_num_Num__1_sk at h ⊢; have Ee0 := fun c w V (h : I0 c w V) => (⟨w, ⟨⟨rfl, rfl, rfl, rfl, rfl, trivial⟩, trivial⟩, h⟩ : ∃ x, transform_Touched_num_Num__1_f0 p0 p1 p2 p3 c w x ∧ I0 c x V); have Bb0 := fun c w V y U (h : I0 c w V ∧ J0 c w V < J0 c y U) => (⟨w, ⟨⟨rfl, rfl, rfl, rfl, rfl, trivial⟩, trivial⟩, h⟩ : ∃ x, transform_Touched_num_Num__1_f0 p0 p1 p2 p3 c w x ∧ I0 c x V ∧ J0 c x V < J0 c y U); exact ⟨(Ee0 _ _ _ h.1), fun x2 V1 h22 h23 => (match (h.2 x2 V1 h22 h23) with | ⟨x3, h21, h20⟩ => ⟨x3, h21, (match h20 with | ⟨x4, h19, h18⟩ => ⟨x4, h19, ⟨fun h17 => (match (h18.1 h17) with | ⟨x5, h16, h15⟩ => ⟨x5, h16, (match h15 with | ⟨x6, h14, h13⟩ => ⟨x6, h14, ⟨h13.1, ⟨h13.2.1, (match h13.2.2 with | ⟨x7, h12, h11⟩ => ⟨x7, h12, ⟨fun h10 => (h11.1 h10), fun h10 => (match (h11.2 h10) with | ⟨x8, h9, h8⟩ => ⟨x8, h9, (match h8 with | ⟨x9, h7, h6⟩ => ⟨x9, h7, (match h6 with | ⟨x10, h5, h4⟩ => ⟨x10, h5, ⟨h4.1, ⟨h4.2.1, (match h4.2.2 with | ⟨x11, h3, h2⟩ => ⟨x11, h3, ⟨fun h1 => (h2.1 h1), fun h1 => (Bb0 _ _ _ _ _ (h2.2 h1))⟩⟩)⟩⟩⟩)⟩)⟩)⟩⟩)⟩⟩⟩)⟩), fun h17 => (h18.2 h17)⟩⟩)⟩)⟩))

/-- waveport/transform.Touched[waveport/num.Num]$1 -/
theorem transform_Touched_num_Num__1_vc : type_of% (fun p0 p1 p2 p3 V R I0 J0 => transform_Touched_num_Num__1_v0 p0 p1 p2 p3 V R I0 J0 (transform_Touched_num_Num__1_sk.eq_1 ..)) := fun p0 p1 p2 p3 V R I0 J0 => transform_Touched_num_Num__1_v0 p0 p1 p2 p3 V R I0 J0 (transform_Touched_num_Num__1_sk.eq_1 ..)

structure L_transform_Touched_num_Num__0 where
  t12l : Nat
  t12c : Nat
  t28 : Int
  o12 : List Value
structure C_transform_Touched_num_Num__0 where
  t10 : Option Addr
  t11 : Value
def transform_Touched_num_Num__f0 (p0 : Sl) (c : C_transform_Touched_num_Num__0) (w x : L_transform_Touched_num_Num__0) : Prop := (Q1 (.val (p0.v)) ∧ Q1 (.val (.pointer c.t10)) ∧ Q1 (.val (c.t11)) ∧ E2 (.lst 12 w.t12l w.t12c) (.lst 12 x.t12l x.t12c) ∧ Q1 (.val (.int .i64 (p0.len : Int))) ∧ E2 (.val (.int .i64 w.t28)) (.val (.int .i64 x.t28)) ∧ True) ∧ (O2 ⟨3, .list w.o12⟩ ⟨3, .list x.o12⟩ ∧ True)
def transform_Touched_num_Num__sk (p0 : Sl) (p1 : GateV) (p2 : Int) (V : View) (R : Value → View → Prop) (I0 : C_transform_Touched_num_Num__0 → L_transform_Touched_num_Num__0 → View → Prop) (E0 : C_transform_Touched_num_Num__0 → L_transform_Touched_num_Num__0 → View → Prop) (B0 : C_transform_Touched_num_Num__0 → L_transform_Touched_num_Num__0 → View → L_transform_Touched_num_Num__0 → View → Prop) : Prop :=
    CallV Try.prog 57 #[p1.val, .int .i64 (p0.len : Int)] V fun v V1 => ∃ r1 : Int, v = .int .i64 r1 ∧ -- transform.valid
    (((r1 : Int) != 0) = true →
      R (.tuple #[(Sl.mk none 0 0).v, .int .i64 r1]) V1) ∧
    (((r1 : Int) != 0) = false →
      CallV Try.prog 58 #[p1.val, .int .i64 (p0.len : Int)] V1 fun v V2 => ∃ r2 : Sl, v = r2.v ∧ -- transform.within
    ∀ (b1 : Nat) (V3 : View), View.le V2 V3 → V3 b1 = some (List.toArray ([.int .i64 p2])) →
    ∀ (b2 : Nat) (V4 : View), View.le V3 V4 → V4 b2 = some (List.toArray ([.int .i64 (p0.len : Int)])) →
    ∀ (b3 : Nat) (V5 : View), View.le V4 V5 → V5 b3 = some (List.toArray ([r2.v])) →
    E0 (C_transform_Touched_num_Num__0.mk (some (Addr.mk b3 0 none)) (.func (.func 61) #[] #[.pointer (some (Addr.mk b1 0 none)), .pointer (some (Addr.mk b2 0 none)), .pointer (some (Addr.mk b3 0 none))])) (L_transform_Touched_num_Num__0.mk 0 0 0 ([] : List Value)) V5 ∧
    (∀ (x2 : L_transform_Touched_num_Num__0) (V6 : View), View.le V5 V6 → I0 (C_transform_Touched_num_Num__0.mk (some (Addr.mk b3 0 none)) (.func (.func 61) #[] #[.pointer (some (Addr.mk b1 0 none)), .pointer (some (Addr.mk b2 0 none)), .pointer (some (Addr.mk b3 0 none))])) x2 V6 →
      ((decide ((x2.t28 : Int) < (p0.len : Int))) = true →
        ∃ x3 : Sl, View.load V6 (some (Addr.mk b3 0 none)) = some (x3.v) ∧
      ((0 : Int) ≤ x2.t28 ∧ (x2.t28 : Int) < (x3.len : Nat) ∧ Option.isSome x3.a = true) ∧
      ∃ x4 : Bool, View.load V6 (Option.map (fun q => Addr.add q (Int.toNat x2.t28 * 1)) x3.a) = some (.bool x4) ∧
      ((!x4) = true →
      CallV Try.prog 61 #[.int .i64 x2.t28, .pointer (some (Addr.mk b1 0 none)), .pointer (some (Addr.mk b2 0 none)), .pointer (some (Addr.mk b3 0 none))] V6 fun v V7 => ∃ r3 : Bool, v = .bool r3 ∧ -- transform.Touched[num.Num]$1
      (r3 = true →
      ((0 : Int) ≤ x2.t28 ∧ (x2.t28 : Int) < (p0.len : Nat) ∧ Option.isSome p0.a = true) ∧
      ∃ x5 : NumV, View.has V7 (Option.map (fun q => Addr.add q (Int.toNat x2.t28 * 5)) p0.a) (x5.val).cells.toList ∧ Option.isSome (Option.map (fun q => Addr.add q (Int.toNat x2.t28 * 5)) p0.a) = true ∧
      CallV Try.prog 59 #[.int .i64 0, .int .i64 1] V7 fun v V8 => ∃ r4 : NumV, v = r4.val ∧ -- transform.of[num.Num]
      CallV Try.prog 15 #[x5.val, r4.val] V8 fun v V9 => ∃ r5 : Bool, v = .bool r5 ∧ -- (num.Num).Same
      ((!r5) = true →
        ∀ (b4 : Nat) (V10 : View), View.le V9 V10 → View.Fin V10 → V10 b4 = some #[.int .i64 x2.t28] →
        ∃ (l1 : List Value) (l2 : List Value), LstOk 1 x2.t12l x2.t12c x2.o12 l1 ∧ View.has V10 (some (Addr.mk b4 0 none)) l2 ∧ List.length l2 = 1 * 1 ∧ (∀ v ∈ l2, Value.oneCell' v = true) ∧ x2.t12l + 1 ≤ maxLen ∧ (x2.t12l + 1) * 8 ≤ 140737488355328 ∧
        ∀ (c1 : Nat) (l3 : List Value), LstOk 1 (x2.t12l + 1) c1 l3 (l1 ++ l2) →
        B0 (C_transform_Touched_num_Num__0.mk (some (Addr.mk b3 0 none)) (.func (.func 61) #[] #[.pointer (some (Addr.mk b1 0 none)), .pointer (some (Addr.mk b2 0 none)), .pointer (some (Addr.mk b3 0 none))])) (L_transform_Touched_num_Num__0.mk (x2.t12l + 1) c1 (IntKind.i64.wrap (x2.t28 + 1)) l3) V10 x2 V6) ∧
      ((!r5) = false →
        B0 (C_transform_Touched_num_Num__0.mk (some (Addr.mk b3 0 none)) (.func (.func 61) #[] #[.pointer (some (Addr.mk b1 0 none)), .pointer (some (Addr.mk b2 0 none)), .pointer (some (Addr.mk b3 0 none))])) (L_transform_Touched_num_Num__0.mk x2.t12l x2.t12c (IntKind.i64.wrap (x2.t28 + 1)) x2.o12) V9 x2 V6)) ∧
      (r3 = false →
      B0 (C_transform_Touched_num_Num__0.mk (some (Addr.mk b3 0 none)) (.func (.func 61) #[] #[.pointer (some (Addr.mk b1 0 none)), .pointer (some (Addr.mk b2 0 none)), .pointer (some (Addr.mk b3 0 none))])) (L_transform_Touched_num_Num__0.mk x2.t12l x2.t12c (IntKind.i64.wrap (x2.t28 + 1)) x2.o12) V7 x2 V6)) ∧
      ((!x4) = false →
      B0 (C_transform_Touched_num_Num__0.mk (some (Addr.mk b3 0 none)) (.func (.func 61) #[] #[.pointer (some (Addr.mk b1 0 none)), .pointer (some (Addr.mk b2 0 none)), .pointer (some (Addr.mk b3 0 none))])) (L_transform_Touched_num_Num__0.mk x2.t12l x2.t12c (IntKind.i64.wrap (x2.t28 + 1)) x2.o12) V6 x2 V6)) ∧
      ((decide ((x2.t28 : Int) < (p0.len : Int))) = false →
        ∀ (b5 : Nat) (V11 : View), View.le V6 V11 → (x2.o12 ≠ [] → V11 b5 = some (List.toArray x2.o12)) →
    R (.tuple #[(Sl.mk (lstA b5 x2.t12c) x2.t12l x2.t12c).v, .int .i64 0]) V11)))

theorem transform_Touched_num_Num__v0 (p0 : Sl) (p1 : GateV) (p2 : Int) (V : View) (R : Value → View → Prop) (I0 : C_transform_Touched_num_Num__0 → L_transform_Touched_num_Num__0 → View → Prop) (J0 : C_transform_Touched_num_Num__0 → L_transform_Touched_num_Num__0 → View → Nat) {X : Prop} (e : transform_Touched_num_Num__sk p0 p1 p2 V R I0 I0 (fun c w V x U => I0 c w V ∧ J0 c w V < J0 c x U) = X) (h : X) :
  CallV Try.prog 25 #[p0.v, p1.val, .int .i64 p2] V R :=
  calls_of_vc (Shp := Shp) hmixed Try.func25 (c := Try.f25.body.getD .skip) (args := [p0.v, p1.val, .int .i64 p2]) (by kernel_rfl)
    (.seq (.reg [⟨4, 3, false⟩, ⟨5, 3, false⟩, ⟨6, 2, false⟩, ⟨7, 2, false⟩]) (.seq (.reg [⟨14, 2, false⟩, ⟨15, 0, false⟩, ⟨8, 3, false⟩, ⟨8, 6, false⟩]) (.seq (.seq (.reg [⟨4, 4, false⟩, ⟨8, 4, false⟩, ⟨18, 10, false⟩, ⟨9, 2, false⟩]) (.seq (.reg [⟨19, 2, false⟩, ⟨20, 0, false⟩]) (.cond (.seq (.reg [⟨21, 2, false⟩, ⟨6, 2, false⟩, ⟨7, 2, false⟩]) .leaf) .leaf))) (.seq (.reg [⟨4, 4, false⟩, ⟨8, 4, false⟩, ⟨24, 10, false⟩, ⟨10, 3, false⟩, ⟨10, 6, false⟩]) (.seq (.pub 5 (.pub 8 (.pub 10 (.reg [⟨25, 0, false⟩, ⟨11, 2, false⟩])))) (.seq (.reg [⟨12, 2, false⟩]) (.seq (.seq (.adopt 12 12 3 (.reg [⟨26, 2, false⟩, ⟨27, 0, false⟩, ⟨28, 2, false⟩])) (.block (.loop C_transform_Touched_num_Num__0 L_transform_Touched_num_Num__0 (fun σ => C_transform_Touched_num_Num__0.mk (gPtr (gTm σ 10)) (gVal (gTm σ 11))) (fun c x => { tm := spT 57 0 [(0, .val (p0.v)), (10, .val (.pointer c.t10)), (11, .val (c.t11)), (12, .lst 12 x.t12l x.t12c), (27, .val (.int .i64 (p0.len : Int))), (28, .val (.int .i64 x.t28))], own := spO 57 0 [(12, ⟨3, .list x.o12⟩)] }) I0 J0 (.seq (.reg [⟨29, 0, false⟩]) (.seq (.cond .leaf .leaf) (.seq (.block (.seq (.reg [⟨30, 2, false⟩, ⟨13, 2, false⟩]) (.seq (.draw [(0, ⟨31, 5, false⟩), (1, ⟨32, 2, false⟩), (2, ⟨33, 7, false⟩), (3, ⟨34, 5, false⟩), (4, ⟨35, 20, false⟩), (5, ⟨36, 2, true⟩), (6, ⟨37, 2, false⟩), (7, ⟨38, 2, false⟩), (8, ⟨39, 10, false⟩), (9, ⟨40, 20, false⟩), (10, ⟨41, 2, true⟩), (11, ⟨42, 2, false⟩), (12, ⟨43, 2, false⟩), (13, ⟨44, 7, false⟩), (14, ⟨45, 5, false⟩), (15, ⟨46, 0, false⟩), (16, ⟨47, 10, false⟩), (17, ⟨48, 10, false⟩), (18, ⟨49, 20, false⟩), (19, ⟨50, 20, false⟩)] [0, 0, 3, 7, 15, 31, 63, 63, 255, 511, 1023, 2047, 2047, 8191, 16383, 32767, 2047, 131071, 262143, 524287]) (.cond (.reg [⟨51, 2, false⟩, ⟨52, 2, false⟩, ⟨53, 11, false⟩, ⟨12, 13, false⟩, ⟨12, 2, false⟩]) .leaf)))) (.reg [⟨55, 0, false⟩, ⟨28, 2, false⟩]))))))) (.seq (.reg [⟨56, 2, false⟩, ⟨6, 2, false⟩, ⟨7, 2, false⟩]) (.pub 12 .leaf)))))))))
    (Eq.mpr (by kernel_rfl) (show transform_Touched_num_Num__sk p0 p1 p2 V R I0 (fun c w V => ∃ x, transform_Touched_num_Num__f0 p0 c w x ∧ I0 c x V) (fun c w V y U => ∃ x, transform_Touched_num_Num__f0 p0 c w x ∧ I0 c x V ∧ J0 c x V < J0 c y U) from by
    have h := Eq.mpr e h; unfold transform_Touched_num_Num__sk at h ⊢; have Ee0 := fun c w V (h : I0 c w V) => (⟨w, ⟨⟨rfl, rfl, rfl, rfl, rfl, rfl, trivial⟩, ⟨rfl, trivial⟩⟩, h⟩ : ∃ x, transform_Touched_num_Num__f0 p0 c w x ∧ I0 c x V); have Bb0 := fun c w V y U (h : I0 c w V ∧ J0 c w V < J0 c y U) => (⟨w, ⟨⟨rfl, rfl, rfl, rfl, rfl, rfl, trivial⟩, ⟨rfl, trivial⟩⟩, h⟩ : ∃ x, transform_Touched_num_Num__f0 p0 c w x ∧ I0 c x V ∧ J0 c x V < J0 c y U); exact (CallV.mono h (fun _ _ _ ⟨r1, h43, h42⟩ => ⟨r1, h43, ⟨fun h41 => (h42.1 h41), fun h41 => (CallV.mono (h42.2 h41) (fun _ _ _ ⟨r2, h40, h39⟩ => ⟨r2, h40, (fun b1 V3 h37 h38 => (fun b2 V4 h35 h36 => (fun b3 V5 h33 h34 => ⟨(Ee0 _ _ _ (((h39 b1 V3 h37 h38) b2 V4 h35 h36) b3 V5 h33 h34).1), fun x2 V6 h31 h32 => ⟨fun h30 => (match (((((h39 b1 V3 h37 h38) b2 V4 h35 h36) b3 V5 h33 h34).2 x2 V6 h31 h32).1 h30) with | ⟨x3, h27, h26⟩ => ⟨x3, h27, ⟨h26.1, (match h26.2 with | ⟨x4, h25, h24⟩ => ⟨x4, h25, ⟨fun h23 => (CallV.mono (h24.1 h23) (fun _ _ _ ⟨r3, h22, h21⟩ => ⟨r3, h22, ⟨fun h20 => ⟨(h21.1 h20).1, (match (h21.1 h20).2 with | ⟨x5, h18, h19, h17⟩ => ⟨x5, h18, h19, (CallV.mono h17 (fun _ _ _ ⟨r4, h16, h15⟩ => ⟨r4, h16, (CallV.mono h15 (fun _ _ _ ⟨r5, h14, h13⟩ => ⟨r5, h14, ⟨fun h12 => (fun b4 V10 h9 h10 h11 => (match ((h13.1 h12) b4 V10 h9 h10 h11) with | ⟨l1, l2, h3, h4, h5, h6, h7, h8, h2⟩ => ⟨l1, l2, h3, h4, h5, h6, h7, h8, (fun c1 l3 h1 => (Bb0 _ _ _ _ _ (h2 c1 l3 h1)))⟩)), fun h12 => (Bb0 _ _ _ _ _ (h13.2 h12))⟩⟩))⟩))⟩)⟩, fun h20 => (Bb0 _ _ _ _ _ (h21.2 h20))⟩⟩)), fun h23 => (Bb0 _ _ _ _ _ (h24.2 h23))⟩⟩)⟩⟩), fun h30 => (fun b5 V11 h28 h29 => ((((((h39 b1 V3 h37 h38) b2 V4 h35 h36) b3 V5 h33 h34).2 x2 V6 h31 h32).2 h30) b5 V11 h28 h29))⟩⟩)))⟩))⟩⟩))))

/-- waveport/transform.Touched[waveport/num.Num] -/
theorem transform_Touched_num_Num__vc : type_of% (fun p0 p1 p2 V R I0 J0 => transform_Touched_num_Num__v0 p0 p1 p2 V R I0 J0 (transform_Touched_num_Num__sk.eq_1 ..)) := fun p0 p1 p2 V R I0 J0 => transform_Touched_num_Num__v0 p0 p1 p2 V R I0 J0 (transform_Touched_num_Num__sk.eq_1 ..)

end Go.Proofs.Ytnbjnokgmeamdaa

namespace Go.Proofs.Ytnbjnokgmeamdaa
open Go Go.Vc Go.Proofs

/-- The fourth roots of one. -/
def all4 : List Cq := [⟨1, 0⟩, ⟨0, -1⟩, ⟨-1, 0⟩, ⟨0, 1⟩]
def rootsQ (n : Nat) : List Cq := (List.range n).map fun j => nth all4 (4 / n * j)

theorem all4_1 : (⟨((1 : Int) : Rat), 0⟩ : Cq) = ⟨1, 0⟩ := Cq.ext' (by simp) rfl
theorem all4_2 : (⟨((0 : Int) : Rat) / ((1 : Int) : Rat), ((-1 : Int) : Rat) / ((1 : Int) : Rat)⟩ : Cq) = ⟨0, -1⟩ := Cq.ext' (by simp only []; grind) (by simp only []; grind)
theorem all4_3 : (⟨((-1 : Int) : Rat), 0⟩ : Cq) = ⟨-1, 0⟩ := Cq.ext' (by simp only []; grind) rfl
theorem all4_4 : -(⟨0, -1⟩ : Cq) = ⟨0, 1⟩ := Cq.ext' (by rw [Cq.neg_re]; grind) (by rw [Cq.neg_im]; grind)

theorem transform_Exact_spec {V : View} {n : Nat} (hn : n = 1 ∨ n = 2 ∨ n = 4) :
    CallV Try.prog n_transform_Exact #[.int .i64 (n : Int)] V fun v V' => ∃ r : Sl, v = .tuple #[r.v, .int .i64 0] ∧ NumsAt V' r (rootsQ n) := by
  have hd : (4 / n) * n = 4 := by rcases hn with rfl | rfl | rfl <;> rfl
  have hpos : 1 ≤ 4 / n := by rcases hn with rfl | rfl | rfl <;> decide
  have hn4 : n ≤ 4 := by omega
  have hn0 : n ≠ 0 := by omega
  have hdi : Int.tdiv 4 (n : Int) = ((4 / n : Nat) : Int) := by rcases hn with rfl | rfl | rfl <;> rfl
  have hw : IntKind.i64.wrap (Int.tdiv 4 (n : Int)) = ((4 / n : Nat) : Int) := by
    rw [hdi]
    refine i64w (by omega) ?_
    have : 4 / n ≤ 4 := Nat.div_le_self _ _
    omega
  have hq : 4 / n ≤ 4 := Nat.div_le_self _ _
  refine transform_Exact_vc (n : Int) V _ (fun c x V' => ∃ l, NumsAt V' c.t6 all4 ∧ x.t8 = (4 / n * x.t7l : Nat) ∧ x.t7l ≤ n ∧ LstOk 5 x.t7l x.t7c x.o7 l ∧ NumsIn V' l ((List.range x.t7l).map fun j => nth all4 (4 / n * j)))
    (fun _ x _ => n - x.t7l) ((transform_length_spec (Int.natCast_nonneg _)).mono fun v V1 l1 hv => ⟨_, hv, fun h => ?_, fun h => ⟨fun h => ?_, fun _ => ?_⟩⟩)
  · exfalso
    rw [Int.toNat_natCast] at h
    rcases hn with rfl | rfl | rfl <;> exact absurd h (by decide)
  · exfalso; simp at h; omega
  refine (num_New_spec (by omega) (by omega) (by omega) (by omega) (by omega) (by omega) (by omega)).mono fun v V2 l2 ⟨r2, hv, h2⟩ => ⟨r2, 0, hv, ?_⟩
  refine (num_Int_spec (by omega) (by omega)).mono fun v V3 l3 ⟨r4, hv, h4⟩ => ⟨r4, hv, ?_⟩
  refine (num_Int_spec (by omega) (by omega)).mono fun v V4 l4 ⟨r5, hv, h5⟩ => ⟨r5, hv, ?_⟩
  rw [all4_2] at h2
  rw [all4_1] at h4
  rw [all4_3] at h5
  refine (Num_Neg_spec (h2.le (View.le_trans l3 l4))).mono fun v V5 l5 ⟨r6, hv, h6⟩ => ⟨r6, hv, ?_⟩
  rw [all4_4] at h6
  intro b V6 l6 hf hb
  have hall : NumsAt V6 (Sl.mk (some (Addr.mk b 0 none)) 4 4) all4 :=
    ListAt.of_made (o := [.bool r4.re.neg, r4.re.mag.v, .bool r4.im.neg, r4.im.mag.v, r4.under.v] ++ ([.bool r2.re.neg, r2.re.mag.v, .bool r2.im.neg, r2.im.mag.v, r2.under.v] ++ ([.bool r5.re.neg, r5.re.mag.v, .bool r5.im.neg, r5.im.mag.v, r5.under.v] ++ ([.bool r6.re.neg, r6.re.mag.v, .bool r6.im.neg, r6.im.mag.v, r6.under.v] ++ []))))
      (by simpa using hb)
      ⟨_, _, rfl, rfl, ⟨r4, rfl, h4.le (View.le_trans l4 (View.le_trans l5 l6))⟩, _, _, rfl, rfl, ⟨r2, rfl, h2.le (View.le_trans l3 (View.le_trans l4 (View.le_trans l5 l6)))⟩, _, _, rfl, rfl, ⟨r5, rfl, h5.le (View.le_trans l5 l6)⟩, _, _, rfl, rfl, ⟨r6, rfl, h6.le l6⟩, rfl⟩ rfl
  refine ⟨⟨[], hall, by simp, by simp, LstOk.nil, rfl⟩, ?_⟩
  rintro ⟨k, c, t, o⟩ V7 l7 ⟨l, hA, ht, hk, hlo, hin⟩
  simp only at hA ht hk hlo hin ⊢
  refine ⟨fun hlt => ?_, fun hge => ?_⟩
  · simp only [decide_eq_true_eq] at hlt
    have hkn : k < n := by
      rcases Nat.lt_or_ge k n with h | h
      · exact h
      · have := Nat.mul_le_mul_left (4 / n) h
        omega
    obtain ⟨hb', x, hx, hs, hnx⟩ := hA.get (t := t) (by omega) (by simp [all4]; omega)
    refine ⟨hb', x, hx, hs, fun b2 V8 l8 hf8 hb8 => ?_⟩
    refine ⟨l, _, hlo, has_block (l := [.bool x.re.neg, x.re.mag.v, .bool x.im.neg, x.im.mag.v, x.under.v]) hb8, rfl, oneCell_num x, Nat.le_trans (show k + 1 ≤ 5 by omega) (show 5 ≤ maxLen by decide), by omega, fun c1 l3' hl3 => ⟨by omega, ⟨_, hA.le l8, ?_, by omega, hl3, ?_⟩, by omega⟩⟩
    · rw [hw, i64w (by omega) (by omega), ht, Nat.mul_add]; omega
    · rw [← push_range]
      have e3 : 4 / n * k = t.toNat := by omega
      rw [e3]
      exact (hin.le l8).push (hnx.le l8)
  · simp only [decide_eq_false_iff_not] at hge
    intro b3 V9 l9 hb9
    refine ⟨_, rfl, ?_⟩
    have hkn : k = n := by
      rcases Nat.lt_or_ge k n with h | h
      · have := Nat.mul_le_mul_left (4 / n) (show k + 1 ≤ n from h)
        rw [Nat.mul_add] at this
        omega
      · omega
    subst hkn
    refine ListAt.of_lst hlo hb9 (hin.le l9) ?_
    simp [rootsQ]

theorem transform_Fast_spec {V : View} {p w : Sl} {m : Nat} {zs ws : List Cq} (S T : Nat) (hm : m ≤ 6) (hz : zs.length = 2 ^ m) (hw : ws.length = 2 ^ m) (hp : NumsAt V p zs) (hq : NumsAt V w ws)
    (hS : ∀ i, i < 2 ^ m → (nth zs i).sz ≤ S) (hT : ∀ i, i < 2 ^ m → (nth ws i).sz ≤ T) (hsz : 2 ^ m * (S + T + 2) ≤ 2 ^ 39) :
    CallV Try.prog n_transform_Fast_num_Num_ #[p.v, w.v] V fun v V' => ∃ r : Sl, v = .tuple #[r.v, .int .i64 0] ∧ NumsAt V' r (stageF m zs ws) := by
  have hpl := hp.len
  have hwl := hq.len
  have hl : lenB w.len = true := by
    rw [hwl, hw]
    have key : ∀ m ∈ List.range 7, lenB (2 ^ m) = true := by decide
    exact key m (by simp; omega)
  refine transform_Fast_num_Num__vc p w V _ ((transform_fits_spec p w).mono fun v V1 l1 hv => ⟨_, hv, fun h => ?_, fun h => ?_⟩)
  · rw [hl] at h; simp at h; omega
  · have ne : stageF m zs ws ≠ [] := by
      intro e
      have := stageF_length m zs ws
      rw [e] at this; simp at this
      have : 0 < 2 ^ m := Nat.pow_pos (by omega)
      omega
    exact (CallO.nums ne (transform_stage_owned m S T hm hz hw (hp.le l1) (hq.le l1) hS hT hsz)).mono fun v V2 l2 ⟨r, hv, hr⟩ => ⟨r, hv, r, rfl, hr⟩

def gateOk (g : GateV) (n : Int) : Prop := 0 ≤ g.from_ ∧ g.from_ < n ∧ 0 ≤ g.count ∧ g.count ≤ n
theorem transform_valid_ok {V : View} {g : GateV} {n : Nat} (hl : lenB n = true) (h : gateOk g n) :
    CallV Try.prog n_transform_valid #[g.val, .int .i64 (n : Int)] V fun v _ => v = .int .i64 0 := by
  obtain ⟨h1, h2, h3, h4⟩ := h
  refine transform_valid_vc g n V _ ((transform_length_spec (Int.natCast_nonneg _)).mono fun v V1 l1 hv => ⟨_, hv, fun h => ?_, fun _ => ⟨fun h => ?_, fun _ => ⟨fun h => ?_, fun _ => ⟨fun h => ?_, fun _ => ⟨fun h => ?_, fun _ => rfl⟩⟩⟩⟩⟩)
  · rw [Int.toNat_natCast, hl] at h; simp at h
  · simp at h; omega
  · simp at h; omega
  · simp at h; omega
  · simp at h; omega
theorem transform_Rest_ok {V : View} {g : GateV} {n : Nat} (hl : lenB n = true) (h : gateOk g n) :
    CallV Try.prog n_transform_Rest #[g.val, .int .i64 (n : Int)] V fun v _ => v = .tuple #[(GateV.mk ((g.from_ + g.count) % n) (n - g.count)).val, .int .i64 0] := by
  have hb := lenB_le hl
  obtain ⟨h1, h2, h3, h4⟩ := id h
  refine transform_Rest_vc g n V _ ((transform_valid_ok hl h).mono fun v V1 l1 hv => ⟨_, hv, fun h => ?_, fun _ => ⟨by omega, ?_⟩⟩)
  · simp at h
  · rw [i64w (by omega) (by omega), i64w (by omega) (by omega), Int.tmod_eq_emod_of_nonneg (by omega)]

theorem slices_Reverse_one {V : View} {c : Nat} {w : List Value} :
    CallD Try.prog n_slices_Reverse___byte_byte_ (fun b => (Value.slice (some ⟨b, 0, none⟩) 1 c :: [] : List Value)) T_u8 w V fun v l _ => v = .tuple #[] ∧ l = w := by
  refine slices_Reverse___byte_byte__vc 0 1 c w V _ (fun _ x _ => x.t2 = 0 ∧ x.t3 = 0 ∧ x.o0 = w) (fun _ _ _ => 0) ⟨⟨rfl, (by decide : IntKind.i64.wrap (((1 : Nat) : Int) - 1) = 0), rfl⟩, ?_⟩
  rintro ⟨a, b, o⟩ V1 l1 ⟨h1, h2, h3⟩
  dsimp only at h1 h2 h3 ⊢
  subst h1; subst h2; subst h3
  exact ⟨fun h => absurd h (by simp), fun _ => ⟨rfl, rfl⟩⟩

/-- One decimal. -/
theorem nat_digits_one {V : View} {s : Sl} {n : Nat} (h : NatAt V s n) (h0 : 0 < n) (h9 : n < 10) :
    CallV Try.prog n_nat_digits #[s.v] V fun v _ => v = .string (ByteArray.mk #[UInt8.ofNat (48 + n)]) := by
  have hl := h.len_zero
  refine nat_digits_vc s V _
    (fun _ x V' => (NatAt V' x.t0 n ∧ x.t3l = 0 ∧ x.t3c = 0 ∧ x.o3 = []) ∨ (x.t0.len = 0 ∧ x.t3l = 1 ∧ LstOk 1 1 x.t3c x.o3 [.int .u8 ((48 + n : Nat) : Int)])) (fun _ x _ => x.t0.len)
    (fun c x V' => c.t0.len = 0 ∧ ((x.t3l = 0 ∧ x.t3c = 0 ∧ x.t4 = n ∧ x.t5 = 0 ∧ x.o3 = []) ∨ (x.t3l = 1 ∧ x.t4 = 0 ∧ x.t5 = 1 ∧ LstOk 1 1 x.t3c x.o3 [.int .u8 ((48 + n : Nat) : Int)]))) (fun _ x _ => 1 - x.t3l)
    ⟨fun h1 => ?_, fun _ => ⟨.inl ⟨h, rfl, rfl, rfl⟩, ?_⟩⟩
  · exfalso; have h1 : (s.len : Int) = 0 := (by simpa using h1); omega
  rintro ⟨t0, t3l, t3c, o3⟩ V1 l1 hI
  dsimp only at hI ⊢
  refine ⟨fun hp => ?_, fun hz => ?_⟩
  · simp only [gt_iff_lt, decide_eq_true_eq] at hp
    rcases hI with ⟨hA, rfl, rfl, rfl⟩ | ⟨hA, _⟩
    rotate_left
    · exfalso; omega
    have hw : wn n ≤ 2 ^ 45 := by have : wn n ≤ 2 := wn_le_of_lt (by omega); omega
    refine (nat_short_spec hA hw (d := 1000000000) (by omega) (by omega)).mono fun v V2 l2 ⟨r1, hv, hr1⟩ => ⟨r1, _, hv, ?_⟩
    rw [Nat.div_eq_of_lt (by omega)] at hr1
    have hr0 : r1.len = 0 := hr1.len_zero.2 rfl
    rw [Nat.mod_eq_of_lt (by omega)]
    refine ⟨⟨hr0, .inl ⟨rfl, rfl, rfl, rfl, rfl⟩⟩, ?_⟩
    rintro ⟨t3l, t3c, t4, t5, o3⟩ V3 l3 ⟨_, hI⟩
    dsimp only at hI ⊢
    refine ⟨fun h9 => ⟨fun h => ?_, fun _ => ⟨fun hpos => ?_, fun hnp => ?_⟩⟩, fun h9 => ?_⟩
    · exfalso; simp [hr0] at h
    · simp only [gt_iff_lt, decide_eq_true_eq] at hpos
      rcases hI with ⟨rfl, rfl, rfl, rfl, rfl⟩ | ⟨rfl, rfl, rfl, hA⟩
      rotate_left
      · exfalso; omega
      intro b1 V4 l4 hf hb
      have ed : IntKind.u8.wrap (IntKind.u32.wrap (48 + Int.tmod (n : Int) 10)) = ((48 + n : Nat) : Int) := by
        have e1 : Int.tmod (n : Int) 10 = n := by rw [Int.tmod_eq_emod_of_nonneg (by omega)]; omega
        rw [e1, u32w (by omega) (by omega)]
        have : ∀ n ∈ List.range 10, IntKind.u8.wrap (48 + (n : Int)) = ((48 + n : Nat) : Int) := by decide
        exact this n (by simp; omega)
      rw [ed] at hb
      refine ⟨[], [.int .u8 ((48 + n : Nat) : Int)], LstOk.nil, has_block hb, rfl, ?_, by decide, by decide, fun c1 l3 hl3 => ⟨⟨hr0, .inr ⟨rfl, ?_, ?_, hl3⟩⟩, ?_⟩⟩
      · intro v hv; simp at hv; subst hv; rfl
      · show IntKind.u32.wrap (Int.tdiv (n : Int) 10) = 0
        have e1 : Int.tdiv (n : Int) 10 = 0 := by rw [Int.tdiv_eq_ediv_of_nonneg (by omega)]; omega
        rw [e1]; decide
      · show IntKind.i64.wrap (0 + 1) = 1
        decide
      · show 1 - (0 + 1) < 1 - 0
        decide
    · simp only [gt_iff_lt, decide_eq_false_iff_not] at hnp
      rcases hI with ⟨rfl, rfl, rfl, rfl, rfl⟩ | ⟨rfl, rfl, rfl, hA⟩
      · exfalso; omega
      · exact ⟨.inr ⟨hr0, rfl, hA⟩, by show r1.len < t0.len; omega⟩
    · rcases hI with ⟨rfl, rfl, rfl, rfl, rfl⟩ | ⟨rfl, rfl, rfl, hA⟩ <;> exact absurd h9 (by simp)
  · simp only [gt_iff_lt, decide_eq_false_iff_not] at hz
    rcases hI with ⟨hA, rfl, rfl, rfl⟩ | ⟨hA, rfl, hlo⟩
    · exfalso; have := hA.len_zero; omega
    obtain ⟨o', e⟩ := hlo.split
    have hc := hlo.le
    refine ⟨⟨by rw [e]; simp, ⟨by omega, trivial⟩, trivial⟩, slices_Reverse_one.mono fun v l V7 l7 ⟨hv, hl⟩ => ⟨hv, fun b4 V8 l8 hb => ?_⟩⟩
    rw [hl] at hb
    refine ⟨[UInt8.ofNat (48 + n)], ?_, rfl, rfl, rfl⟩
    have hh := has_block hb
    intro j v hj
    refine hh j v ?_
    rw [e]
    have ev : byteV (UInt8.ofNat (48 + n)) = .int .u8 ((48 + n : Nat) : Int) := by
      unfold byteV
      have : ∀ n ∈ List.range 10, ((UInt8.ofNat (48 + n)).toNat : Int) = ((48 + n : Nat) : Int) := by decide
      rw [this n (by simp; omega)]
    cases j with
    | zero =>
      simp only [List.map_cons, List.map_nil, List.getElem?_cons_zero, Option.some.injEq] at hj
      rw [← hj, ev]; rfl
    | succ j => simp at hj

theorem small2 : ((1 + 1 : Nat) : Int) ≤ IntKind.i64.max := by decide
/-- A part of one decimal. -/
theorem num_part_one {V : View} {x : WhV} {s : Sl} {a : Int} (hx : IntAt V x a) (hs : NatAt V s 1) (h0 : a ≠ 0) (h9 : a.natAbs < 10) :
    CallV Try.prog n_num_part #[x.val, s.v] V fun v _ => v = .string (if a < 0 then ByteArray.mk #[45] ++ ByteArray.mk #[UInt8.ofNat (48 + a.natAbs)] else ByteArray.mk #[UInt8.ofNat (48 + a.natAbs)]) := by
  obtain ⟨e1, e2, e3⟩ := Cq.ofInt_eqs a
  have hw : wn a.natAbs ≤ 2 ^ 43 := by have : wn a.natAbs ≤ 2 := wn_le_of_lt (by omega); omega
  have hw0 : wn (0 : Int).natAbs ≤ 2 ^ 43 := by have : wn 0 ≤ 2 := wn_le_of_lt (by omega); simp; omega
  have hw1 : wn 1 ≤ 2 ^ 43 := by have : wn 1 ≤ 2 := wn_le_of_lt (by omega); omega
  refine num_part_vc x s V _ ((num_over_spec hx (IntAt.zero V) hs (Rep.ofInt a) hw hw0 hw1).mono fun v V1 l1 ⟨r1, hv, hr⟩ => ⟨r1, hv, ?_⟩)
  have hre := hr.re
  have hun := hr.under
  rw [e1] at hre
  rw [e3, if_pos rfl] at hun
  have hul : r1.under.len = 0 := hun.len_zero.2 rfl
  refine (nat_digits_one hre.2 (by omega) h9).mono fun v V2 l2 hv => ⟨_, hv, fun hneg => ⟨small2, fun h => ?_, fun _ => ?_⟩, fun hneg => ⟨fun h => ?_, fun _ => ?_⟩⟩
  · exfalso; simp [hul] at h
  · rw [hre.1] at hneg
    rw [if_pos (by simpa using hneg)]
  · exfalso; simp [hul] at h
  · rw [hre.1] at hneg
    rw [if_neg (by simpa using hneg)]

theorem eqAt_gate : Go.Vc.EqAt Try.prog TN_api_Gate ((GateV.mk 1 2).val) ((GateV.mk 1 2).val) true := fun w => by kernel_rfl

theorem awakeQ_eqs : (Cq.mk (-2) 2).A = -2 ∧ (Cq.mk (-2) 2).B = 2 ∧ (Cq.mk (-2) 2).D = 1 :=
  Canon.eqs ⟨⟨by omega, by simp only []; rw [Rat.div_def]; grind, by simp only []; rw [Rat.div_def]; grind⟩, by decide⟩

theorem small3 : ((1 + 1 : Nat) : Int) ≤ IntKind.i64.max := by decide
theorem small4 : ((1 + 2 : Nat) : Int) ≤ IntKind.i64.max := by decide
theorem small5 : ((2 + 3 : Nat) : Int) ≤ IntKind.i64.max := by decide

theorem Num_Text_awake {V : View} {x : NumV} (h : NumAt V x ⟨-2, 2⟩) :
    CallV Try.prog n_Num_Text #[x.val] V fun v _ => v = .string (ByteArray.mk #[45, 50, 43, 50, 105]) := by
  obtain ⟨e1, e2, e3⟩ := awakeQ_eqs
  have hre := h.re
  have him := h.im
  rw [e1] at hre
  rw [e2] at him
  refine Num_Text_vc x V _ ((Num_Real_spec h).mono fun v V1 l1 hv => ⟨_, hv, fun hr => ?_, fun _ => ?_⟩)
  · exfalso
    simp at hr
  refine (Num_den_spec (h.le l1)).mono fun v V4 l4 ⟨r4, hv, h4⟩ => ⟨r4, hv, ?_⟩
  rw [e3] at h4
  refine (num_part_one (him.le (View.le_trans l1 l4)) h4 (by omega) (by decide)).mono fun v V5 l5 hv => ⟨_, hv, small3, fun h0 => ?_, fun _ => ⟨fun _ => ?_, fun hn => ?_⟩⟩
  · exfalso
    have h0 : x.re.mag.len = 0 := by have : (x.re.mag.len : Int) = 0 := (by simpa using h0); omega
    have := hre.2.len_zero.1 h0
    omega
  · refine ⟨small4, (Num_den_spec (h.le (View.le_trans l1 (View.le_trans l4 l5)))).mono fun v V6 l6 ⟨r6, hv, h6⟩ => ⟨r6, hv, ?_⟩⟩
    rw [e3] at h6
    refine (num_part_one (hre.le (View.le_trans l1 (View.le_trans l4 (View.le_trans l5 l6)))) h6 (by omega) (by decide)).mono fun v V7 l7 hv => ⟨_, hv, small5, ?_⟩
    rfl
  · exfalso
    rw [him.1] at hn
    exact absurd hn (by decide)

def four : List RatV := [⟨1, 0, 0⟩, ⟨2, 0, 0⟩, ⟨3, 0, 0⟩, ⟨4, 0, 0⟩]
theorem four_ok : ∀ r ∈ four, ratI r := by
  intro r hr
  simp only [four, List.mem_cons, List.not_mem_nil, or_false] at hr
  rcases hr with rfl | rfl | rfl | rfl <;> exact ⟨⟨by decide, by decide⟩, ⟨by decide, by decide⟩, ⟨by decide, by decide⟩⟩
theorem four_sz : ∀ i, i < 2 ^ 2 → (nth (four.map ratQ) i).sz ≤ 4 := by
  decide +kernel
theorem roots_sz : ∀ i, i < 2 ^ 2 → (nth (rootsQ 4) i).sz ≤ 4 := by
  decide +kernel
theorem awake_stage : nth (stageF 2 (four.map ratQ) (rootsQ 4)) 1 = ⟨-2, 2⟩ := by
  decide +kernel

theorem ratC_of (V : View) (a b c : Int) : ratC V [.int .i64 a, .int .i64 b, .int .i64 c] ⟨a, b, c⟩ := by unfold ratC; rfl

theorem awake_spec {V : View} : CallV Try.prog n_waveportlaw07_awake #[] V fun v _ => v = .bool true := by
  refine waveportlaw07_awake_vc V _ ((transform_Exact_spec (n := 4) (by omega)).mono fun v V1 l1 ⟨w, hv, hw⟩ => ⟨w, 0, hv, ?_⟩)
  intro b V2 l2 hf hb
  have hrs : RatsAt V2 (Sl.mk (some (Addr.mk b 0 none)) 4 4) four :=
    ListAt.of_made (o := [.int .i64 1, .int .i64 0, .int .i64 0] ++ ([.int .i64 2, .int .i64 0, .int .i64 0] ++ ([.int .i64 3, .int .i64 0, .int .i64 0] ++ ([.int .i64 4, .int .i64 0, .int .i64 0] ++ []))))
      (by simpa using hb) ⟨_, _, rfl, rfl, ratC_of _ _ _ _, _, _, rfl, rfl, ratC_of _ _ _ _, _, _, rfl, rfl, ratC_of _ _ _ _, _, _, rfl, rfl, ratC_of _ _ _ _, rfl⟩ rfl
  refine (law1_List_spec hrs four_ok (by decide)).mono fun v V3 l3 ⟨r3, hv, h3⟩ => ⟨r3, hv, ?_⟩
  refine (transform_Fast_spec (m := 2) 4 4 (by omega) rfl rfl h3 (hw.le (View.le_trans l2 l3)) four_sz roots_sz (by decide)).mono fun v V4 l4 ⟨r4, hv, h4⟩ => ⟨r4, 0, hv, ?_⟩
  refine (transform_Rest_ok (g := GateV.mk 3 2) (n := 4) (by decide) ⟨by decide, by decide, by decide, by decide⟩).mono fun v V5 l5 hv => ⟨GateV.mk 1 2, 0, hv, ?_⟩
  have hl : r4.len = 4 := h4.len
  obtain ⟨hb', x, hx, hs, hnx⟩ := (h4.le l5).get (t := 1) (by omega) (by show 1 < 4; omega)
  have e1 : nth (stageF 2 (four.map ratQ) (rootsQ 4)) (Int.toNat 1) = ⟨-2, 2⟩ := awake_stage
  rw [e1] at hnx
  refine ⟨fun _ => ⟨fun _ => ⟨fun _ => ⟨fun _ => ⟨hb', x, hx, hs, (Num_Text_awake hnx).mono fun v V6 l6 hv => ⟨_, hv, fun _ => ⟨true, eqAt_gate, rfl⟩, fun h => ?_⟩⟩, fun h => ?_⟩, fun h => ?_⟩, fun h => ?_⟩, fun h => ?_⟩
  · simp at h
  · simp [hl] at h
  · simp at h
  · simp at h
  · simp at h
end Go.Proofs.Ytnbjnokgmeamdaa

namespace Go.Proofs.Ytnbjnokgmeamdaa
open Go Go.Vc Go.Proofs

/-- A number of small parts. -/
def smallR (r : RatV) : RatV := ⟨Int.tmod r.re 21, Int.tmod r.im 21, ((Int.tmod r.den 6).natAbs + 1 : Nat)⟩
def tame (r : RatV) : Prop := (-20 ≤ r.re ∧ r.re ≤ 20) ∧ (-20 ≤ r.im ∧ r.im ≤ 20) ∧ 0 ≤ r.den ∧ r.den ≤ 6
theorem tame.ok {r : RatV} (h : tame r) : ratI r := by
  obtain ⟨⟨a, b⟩, ⟨c, d⟩, e, f⟩ := h
  exact ⟨⟨by omega, by omega⟩, ⟨by omega, by omega⟩, ⟨by omega, by omega⟩⟩
theorem tmod_range (a : Int) {b : Int} (hb : 0 < b) : -b < Int.tmod a b ∧ Int.tmod a b < b := by
  have h1 := Int.tmod_lt_of_pos a hb
  have h2 := Int.tmod_lt_of_pos (-a) hb
  rw [Int.neg_tmod] at h2
  omega
theorem smallR_tame (r : RatV) : tame (smallR r) := by
  have h1 := tmod_range r.re (b := 21) (by omega)
  have h2 := tmod_range r.im (b := 21) (by omega)
  have h3 := tmod_range r.den (b := 6) (by omega)
  refine ⟨⟨?_, ?_⟩, ⟨?_, ?_⟩, ?_, ?_⟩ <;> simp only [smallR] <;> omega
theorem tame_zero : tame ⟨0, 0, 0⟩ := ⟨⟨by decide, by decide⟩, ⟨by decide, by decide⟩, by decide, by decide⟩
theorem tame_sz {r : RatV} (h : tame r) : (ratQ r).sz ≤ 5 := by
  obtain ⟨⟨a, b⟩, ⟨c, d⟩, e, f⟩ := h
  have key : Rep (ratQ r) r.re r.im (if r.den = 0 then 1 else r.den.toNat) := by
    unfold ratQ
    split
    · refine ⟨by omega, ?_, ?_⟩ <;> simp only [] <;> rw [Rat.div_def] <;> simp <;> grind
    · have e : ((r.den.toNat : Nat) : Rat) = (r.den : Rat) := by
        have : ((r.den.toNat : Nat) : Int) = r.den := by omega
        rw [← this]; rfl
      exact ⟨by omega, by simp only [e], by simp only [e]⟩
  refine key.sz ?_ ?_ ?_
  · exact bl_le_of_lt (by omega)
  · exact bl_le_of_lt (by omega)
  · exact bl_le_of_lt (by split <;> omega)

theorem small_spec {V : View} (r : RatV) : CallV Try.prog n_waveportlaw07_small #[r.val] V fun v _ => v = (smallR r).val := by
  have h3 := tmod_range r.den (b := 6) (by omega)
  refine waveportlaw07_small_vc r V _ ⟨fun h => ?_, fun h => ?_⟩
  · simp only [decide_eq_true_eq] at h
    rw [i64w (n := 0 - Int.tmod r.den 6) (by omega) (by omega), i64w (by omega) (by omega)]
    have e : 0 - Int.tmod r.den 6 + 1 = (((Int.tmod r.den 6).natAbs + 1 : Nat) : Int) := by omega
    rw [e]; rfl
  · simp only [decide_eq_false_iff_not] at h
    rw [i64w (by omega) (by omega)]
    have e : Int.tmod r.den 6 + 1 = (((Int.tmod r.den 6).natAbs + 1 : Nat) : Int) := by omega
    rw [e]; rfl

def rnth (rs : List RatV) (i : Nat) : RatV := rs.getD i ⟨0, 0, 0⟩
def repeatedR (rs : List RatV) (n : Nat) : List RatV := (List.range n).map fun i => if rs = [] then ⟨0, 0, 0⟩ else smallR (rnth rs (i % rs.length))
theorem repeatedR_tame (rs : List RatV) (n : Nat) : ∀ r ∈ repeatedR rs n, tame r := by
  intro r hr
  obtain ⟨i, _, rfl⟩ := List.mem_map.1 hr
  split
  · exact tame_zero
  · exact smallR_tame _
def rfilled (n k : Nat) (f : Nat → RatV) : List RatV := (List.range k).map f ++ List.replicate (n - k) ⟨0, 0, 0⟩
theorem rfilled_length {n k : Nat} (h : k ≤ n) (f : Nat → RatV) : (rfilled n k f).length = n := by simp [rfilled]; omega
theorem rfilled_set {n k : Nat} (h : k < n) (f : Nat → RatV) : (rfilled n k f).set k (f k) = rfilled n (k + 1) f := by
  unfold rfilled
  rw [List.set_append_right _ _ (by simp)]
  simp only [List.length_map, List.length_range, Nat.sub_self]
  have : n - k = (n - (k + 1)) + 1 := by omega
  rw [this, List.replicate_succ, List.set_cons_zero, List.range_succ, List.map_append]; simp

theorem repeated_spec {V : View} {s : Sl} {rs : List RatV} {n : Nat} (h : RatsAt V s rs) (hr : rs.length < 2 ^ 64) (hn : n ≤ 2 ^ 32) :
    CallV Try.prog n_waveportlaw07_repeated #[s.v, .int .i64 (n : Int)] V fun v V' => ∃ r : Sl, v = r.v ∧ RatsAt V' r (repeatedR rs n) := by
  have hl := h.len
  let f : Nat → RatV := fun i => if rs = [] then ⟨0, 0, 0⟩ else smallR (rnth rs (i % rs.length))
  refine waveportlaw07_repeated_vc s (n : Int) V _ (fun _ x V' => 0 ≤ x.t11 ∧ x.t11 ≤ n ∧ Cells 3 ratC V' x.o8 (rfilled n x.t11.toNat f)) (fun _ x _ => n - x.t11.toNat) ⟨⟨by omega, by omega, by omega, by omega⟩, ⟨Int.le_refl 0, Int.natCast_nonneg _, ?_⟩, ?_⟩
  · rw [Int.toNat_natCast]
    show Cells 3 ratC V _ (rfilled n 0 f)
    have e : rfilled n 0 f = List.replicate n ⟨0, 0, 0⟩ := by simp [rfilled]
    rw [e]
    exact Cells.replicate rfl (ratC_of V 0 0 0) n
  rintro ⟨t, o⟩ V1 l1 ⟨h0, h1, hin⟩
  dsimp only at h0 h1 hin ⊢
  rw [Int.toNat_natCast]
  refine ⟨fun hlt => ?_, fun hge => ?_⟩
  · simp only [decide_eq_true_eq] at hlt
    have hkn : t.toNat < n := by omega
    have e1 : IntKind.i64.wrap (t + 1) = t + 1 := i64w (by omega) (by omega)
    have e2 : (t + 1).toNat = t.toNat + 1 := by omega
    rw [e1]
    refine ⟨fun hp => ?_, fun hz => ?_⟩
    · simp only [gt_iff_lt, decide_eq_true_eq] at hp
      have hm : Int.tmod t (s.len : Int) = ((t.toNat % rs.length : Nat) : Int) := by
        rw [Int.tmod_eq_emod_of_nonneg h0, hl]
        conv => lhs; rw [← Int.toNat_of_nonneg h0]
        rfl
      have hmlt : t.toNat % rs.length < rs.length := Nat.mod_lt _ (by omega)
      rw [hm]
      obtain ⟨hb, x, hx, _, hh, hs⟩ := ListAt.get (h.le l1) (t := ((t.toNat % rs.length : Nat) : Int)) (Int.natCast_nonneg _) (z := rnth rs (t.toNat % rs.length)) (by rw [Int.toNat_natCast]; simp [rnth, List.getD, hmlt])
      refine ⟨by omega, hb, rnth rs (t.toNat % rs.length), hx ▸ hh, hs, (small_spec _).mono fun v V2 l2 hv => ⟨_, hv, ⟨h0, hlt⟩, Cells.room hin (by rw [rfilled_length (by omega)]; omega), ⟨by omega, by omega, ?_⟩, by omega⟩⟩
      rw [e2, ← rfilled_set hkn]
      have ef : f t.toNat = smallR (rnth rs (t.toNat % rs.length)) := by
        simp only [f]; rw [if_neg (by intro e; subst e; simp at hl; omega)]
      rw [ef]
      exact Cells.set0 (Cells.imp (P := ratC) (V := V1) (P' := ratC) (V' := V2) (fun _ _ h => h) hin) (by rw [rfilled_length (by omega)]; omega) rfl (ratC_of V2 _ _ _)
    · simp only [gt_iff_lt, decide_eq_false_iff_not] at hz
      refine ⟨⟨by omega, by omega, ?_⟩, by omega⟩
      have he : rs = [] := by apply List.eq_nil_of_length_eq_zero; omega
      rw [e2, ← rfilled_set hkn]
      have ef : f t.toNat = ⟨0, 0, 0⟩ := by simp only [f]; rw [if_pos he]
      rw [ef]
      have : (rfilled n t.toNat f).set t.toNat ⟨0, 0, 0⟩ = rfilled n t.toNat f := by
        apply List.ext_getElem (by simp)
        intro i g1 g2
        rw [List.getElem_set]
        split
        · rename_i e; subst e
          simp only [rfilled]
          rw [List.getElem_append_right (by simp)]; simp
        · rfl
      rw [this]; exact hin
  · simp only [decide_eq_false_iff_not] at hge
    intro b V3 l3 hb
    have e : t.toNat = n := by omega
    rw [e] at hin
    have e2 : rfilled n n f = repeatedR rs n := by simp [rfilled, repeatedR, f]
    rw [e2] at hin
    exact ⟨_, rfl, ListAt.of_made hb (Cells.imp (P := ratC) (V := V1) (P' := ratC) (V' := V3) (fun _ _ h => h) hin) (by simp [repeatedR])⟩

/-- The numbers that a law is tried at. -/
def exactQ (rs : List RatV) (n : Nat) : List Cq := (repeatedR rs n).map ratQ
theorem exactQ_length (rs : List RatV) (n : Nat) : (exactQ rs n).length = n := by simp [exactQ, repeatedR]
theorem exactQ_sz (rs : List RatV) (n : Nat) : ∀ i, i < n → (nth (exactQ rs n) i).sz ≤ 5 := by
  intro i hi
  have h : nth (exactQ rs n) i ∈ exactQ rs n := by
    have hl := exactQ_length rs n
    have : nth (exactQ rs n) i = (exactQ rs n)[i] := by simp [nth, List.getD, hl, hi]
    rw [this]; exact List.getElem_mem _
  obtain ⟨r, hr, e⟩ := List.mem_map.1 h
  rw [← e]; exact tame_sz (repeatedR_tame rs n r hr)
theorem of_spec {V : View} {p q : Int} (p0 : -9223372036854775808 ≤ p) (p1 : p ≤ 9223372036854775807) (q0 : -9223372036854775808 ≤ q) (q1 : q ≤ 9223372036854775807) (hq : q ≠ 0) :
    CallV Try.prog n_transform_of_num_Num_ #[.int .i64 p, .int .i64 q] V fun v V' => ∃ r : NumV, v = r.val ∧ NumAt V' r ⟨(p : Rat) / (q : Rat), ((0 : Int) : Rat) / (q : Rat)⟩ := by
  refine transform_of_num_Num__vc p q V _ ((num_New_spec p0 p1 (by omega) (by omega) q0 q1 hq).mono fun v V1 l1 ⟨r, hv, hr⟩ => ⟨r, 0, hv, ?_⟩)
  exact (Num_Of_spec hr).mono fun v V2 l2 ⟨r3, hv, h3⟩ => ⟨r3, hv, r3, rfl, h3⟩

end Go.Proofs.Ytnbjnokgmeamdaa

namespace Go.Proofs.Ytnbjnokgmeamdaa
open Go Go.Vc Go.Proofs

theorem lenB_pow : ∀ m ∈ List.range 7, lenB (2 ^ m) = true := by decide

/-- Two slices of the same numbers are found to be so. -/
theorem are_true {V : View} {p q : Sl} {zs : List Cq} (hp : NumsAt V p zs) (hq : NumsAt V q zs) (hn : zs.length ≤ 2 ^ 32) (hS : ∀ i, i < zs.length → (nth zs i).sz ≤ 2 ^ 40) :
    CallV Try.prog n_waveportlaw07_are #[p.v, .int .i64 0, q.v, .int .i64 0] V fun v V' => v = .bool true := by
  have hpl := hp.len
  have hql := hq.len
  refine waveportlaw07_are_vc p 0 q 0 V _ (fun _ _ _ => True) (fun _ x _ => 0 ≤ x.t25 ∧ x.t25 ≤ zs.length) (fun _ x _ => zs.length - x.t25.toNat) ⟨⟨fun h => absurd h (by simp), fun _ => ⟨fun h => absurd h (by simp), fun _ => ⟨fun h => ?_, fun _ => trivial⟩⟩⟩, ?_⟩
  · exfalso; simp [hpl, hql] at h
  intro _ V1 l1 _
  refine ⟨⟨Int.le_refl 0, Int.natCast_nonneg _⟩, ?_⟩
  rintro ⟨t⟩ V2 l2 ⟨h0, ht⟩
  dsimp only at h0 ht ⊢
  refine ⟨fun hlt => ?_, fun _ => rfl⟩
  simp only [decide_eq_true_eq] at hlt
  have hk : t.toNat < zs.length := by omega
  obtain ⟨hb8, x8, hx8, hs8, hn8⟩ := (hp.le (View.le_trans l1 l2)).get h0 hk
  obtain ⟨hb9, x9, hx9, hs9, hn9⟩ := (hq.le (View.le_trans l1 l2)).get h0 hk
  refine ⟨hb8, x8, hx8, hs8, hb9, x9, hx9, hs9, (Num_Same_spec hn8 hn9 (hS _ hk) (hS _ hk)).mono fun v V3 l3 hv => ⟨_, hv, fun h => ?_, fun _ => ?_⟩⟩
  · exfalso; simp at h
  · have e : IntKind.i64.wrap (t + 1) = t + 1 := i64w (by omega) (by omega)
    rw [e]
    exact ⟨⟨by omega, by omega⟩, by show zs.length - (t + 1).toNat < zs.length - t.toNat; omega⟩
end Go.Proofs.Ytnbjnokgmeamdaa

namespace Go.Proofs.Ytnbjnokgmeamdaa
open Go Go.Vc Go.Proofs

def boolC (_ : View) (x : List Value) (b : Bool) : Prop := x = [.bool b]
theorem boolC_mk (V : View) (b : Bool) : boolC V [.bool b] b := rfl
def BoolsAt (V : View) (s : Sl) (bs : List Bool) : Prop := ListAt 1 boolC V s bs
theorem BoolsAt.le {V V' : View} (hle : V.le V') {s : Sl} {bs : List Bool} (h : BoolsAt V s bs) : BoolsAt V' s bs := ListAt.le (P := boolC) (V := V) (V' := V') (fun _ _ h => h) hle h
theorem bool_load {V : View} {p : Option Addr} {v : Value} (h : V.has p [v]) : V.load p = some v := by
  have := h 0 v rfl
  cases p with
  | none => exact this
  | some a => simpa [Addr.add] using this

theorem within_spec {V : View} {g : GateV} {n : Nat} (hg : gateOk g n) (hn : n ≤ 64) :
    CallV Try.prog n_transform_within #[g.val, .int .i64 (n : Int)] V fun v V' => ∃ r : Sl, v = r.v ∧ BoolsAt V' r (gList n g.from_.toNat g.count.toNat) := by
  obtain ⟨h1, h2, h3, h4⟩ := hg
  have hf : g.from_.toNat < n := by omega
  refine transform_within_vc g (n : Int) V _ (fun _ x V' => 0 ≤ x.t11 ∧ x.t11 ≤ g.count ∧ Cells 1 boolC V' x.o8 (gList n g.from_.toNat x.t11.toNat)) (fun _ x _ => (g.count - x.t11).toNat) ⟨⟨by omega, by omega, by omega, by omega⟩, ⟨Int.le_refl 0, h3, ?_⟩, ?_⟩
  · rw [Int.toNat_natCast]
    show Cells 1 boolC V _ (gList n g.from_.toNat 0)
    rw [gList_zero]
    exact Cells.replicate rfl (boolC_mk V false) n
  rintro ⟨t, o⟩ V1 l1 ⟨h0, ht, hin⟩
  dsimp only at h0 ht hin ⊢
  rw [Int.toNat_natCast]
  refine ⟨fun hlt => ?_, fun hge => ?_⟩
  · simp only [decide_eq_true_eq] at hlt
    have e1 : IntKind.i64.wrap (t + 1) = t + 1 := i64w (by omega) (by omega)
    have e2 : (t + 1).toNat = t.toNat + 1 := by omega
    have e3 : Int.tmod (IntKind.i64.wrap (g.from_ + t)) (n : Int) = (((g.from_.toNat + t.toNat) % n : Nat) : Int) := by
      rw [i64w (by omega) (by omega), Int.tmod_eq_emod_of_nonneg (by omega)]
      have : g.from_ + t = ((g.from_.toNat + t.toNat : Nat) : Int) := by omega
      rw [this]; rfl
    have hm : (g.from_.toNat + t.toNat) % n < n := Nat.mod_lt _ (by omega)
    rw [e3, e1, Int.toNat_natCast]
    have hgl : (gList n g.from_.toNat t.toNat).length = n := by simp [gList]
    refine ⟨by omega, ⟨by omega, by omega⟩, Cells.room hin (by rw [hgl]; exact hm), ⟨by omega, by omega, ?_⟩, by omega⟩
    rw [e2, ← gList_set hf (by omega)]
    exact Cells.set0 hin (by rw [hgl]; exact hm) rfl (boolC_mk V1 true)
  · simp only [decide_eq_false_iff_not] at hge
    intro b V2 l2 hb
    have e : t = g.count := by omega
    rw [e] at hin
    exact ⟨_, rfl, ListAt.of_made hb (Cells.imp (P := boolC) (V := V1) (P' := boolC) (V' := V2) (fun _ _ h => h) hin) (by simp [gList])⟩

theorem Cut_spec {V : View} {s : Sl} {g : GateV} {zs : List Cq} (h : NumsAt V s zs) (hl : lenB zs.length = true) (hg : gateOk g zs.length) :
    CallV Try.prog n_transform_Cut_num_Num_ #[s.v, g.val] V fun v V' => ∃ r : Sl, v = .tuple #[r.v, .int .i64 0] ∧ NumsAt V' r (cutF zs (inG zs.length g.from_.toNat g.count.toNat)) := by
  have hb := lenB_le hl
  have hsl := h.len
  let f : Nat → Cq := fun k => if inG zs.length g.from_.toNat g.count.toNat k = true then nth zs k else Cq.zero
  refine transform_Cut_num_Num__vc s g V _ (fun _ x V' => 0 ≤ x.t25 ∧ x.t25 ≤ zs.length ∧ NumsIn V' x.o19 (filled zs.length x.t25.toNat f)) (fun _ x _ => zs.length - x.t25.toNat) ?_
  rw [hsl]
  refine (transform_valid_ok hl hg).mono fun v V1 l1 hv => ⟨_, hv, fun h => absurd h (by simp), fun _ => ⟨⟨by omega, by omega, by omega, by omega⟩, ?_⟩⟩
  refine (within_spec hg hb.2).mono fun v V2 l2 ⟨r2, hv, h2⟩ => ⟨r2, hv, ⟨Int.le_refl 0, Int.natCast_nonneg _, ?_⟩, ?_⟩
  · rw [Int.toNat_natCast]
    show NumsIn V2 _ (filled zs.length 0 f)
    rw [filled_zero]; exact NumsIn.zeros _ _
  have hl2 : r2.len = zs.length := by have := h2.len; simpa [gList] using this
  rintro ⟨t, o⟩ V3 l3 ⟨h0, ht, ho⟩
  dsimp only at h0 ht ho ⊢
  rw [Int.toNat_natCast, hl2]
  refine ⟨fun hlt => ?_, fun hge => ?_⟩
  · simp only [decide_eq_true_eq] at hlt
    have hk : t.toNat < zs.length := by omega
    have hfl : (filled zs.length t.toNat f).length = zs.length := filled_length (by omega) _
    have e1 : IntKind.i64.wrap (t + 1) = t + 1 := i64w (by omega) (by omega)
    have e2 : (t + 1).toNat = t.toNat + 1 := by omega
    obtain ⟨hb3, x, hx, _, hh, _⟩ := ListAt.get (h2.le l3) h0 (z := inG zs.length g.from_.toNat g.count.toNat t.toNat) (by simp [gList, hk])
    rw [hl2] at hb3
    refine ⟨hb3, inG zs.length g.from_.toNat g.count.toNat t.toNat, bool_load (by rw [show x = _ from hx] at hh; exact hh), ?_⟩
    refine (of_spec (p := 0) (q := 1) (by decide) (by decide) (by decide) (by decide) (by decide)).mono fun v V4 l4 ⟨r3, hv, h3⟩ => ⟨r3, hv, ⟨h0, hlt⟩, Cells.room ho (by rw [hfl]; exact hk), fun hin => ?_, fun hin => ?_⟩
    · obtain ⟨hb4, x4, hx4, hs4, hn4⟩ := (h.le (View.le_trans l1 (View.le_trans l2 (View.le_trans l3 l4)))).get h0 hk
      rw [hsl] at hb4
      have s1 := (ho.le l4).set (i := t.toNat) (by rw [hfl]; exact hk) h3
      have s2 := s1.set (i := t.toNat) (by rw [List.length_set, hfl]; exact hk) hn4
      rw [List.set_set] at s2
      have ef : nth zs t.toNat = f t.toNat := by simp only [f]; rw [if_pos hin]
      rw [ef, filled_set hk] at s2
      rw [e1]
      exact ⟨hb4, x4, hx4, hs4, ⟨h0, hlt⟩, Cells.room s1 (by rw [List.length_set, hfl]; exact hk), ⟨by omega, by omega, by rw [e2]; exact s2⟩, by omega⟩
    · have s1 := (ho.le l4).set (i := t.toNat) (by rw [hfl]; exact hk) h3
      have e0 : (⟨((0 : Int) : Rat) / ((1 : Int) : Rat), ((0 : Int) : Rat) / ((1 : Int) : Rat)⟩ : Cq) = Cq.zero := Cq.ext' (by simp [Rat.div_def]; rfl) (by simp [Rat.div_def]; rfl)
      have ef : Cq.zero = f t.toNat := by simp only [f]; rw [if_neg (by rw [hin]; simp)]
      rw [e0, ef, filled_set hk] at s1
      rw [e1]
      exact ⟨⟨by omega, by omega, by rw [e2]; exact s1⟩, by omega⟩
  · simp only [decide_eq_false_iff_not] at hge
    intro b V5 l5 hb5
    have e : t.toNat = zs.length := by omega
    rw [e, filled_all] at ho
    exact ⟨_, rfl, ListAt.of_made (zs := cutF zs (inG zs.length g.from_.toNat g.count.toNat)) hb5 (ho.le l5) (by rw [cutF_length])⟩

theorem plus_spec {V : View} {p q : Sl} {a b : List Cq} (hp : NumsAt V p a) (hq : NumsAt V q b) (hn : a.length ≤ 2 ^ 32) (hb : 1 ≤ b.length) (hA : ∀ i, i < a.length → (nth a i).sz ≤ 2 ^ 40) (hB : ∀ i, i < b.length → (nth b i).sz ≤ 2 ^ 40) :
    CallV Try.prog n_waveportlaw07_plus #[p.v, q.v] V fun v V' => ∃ r : Sl, v = r.v ∧ NumsAt V' r (plusF a b) := by
  have hpl := hp.len
  have hql := hq.len
  refine waveportlaw07_plus_vc p q V _ (fun _ x V' => 0 ≤ x.t12 ∧ x.t12 ≤ a.length ∧ NumsIn V' x.o9 (filled a.length x.t12.toNat fun i => nth a i + nth b (i % b.length))) (fun _ x _ => a.length - x.t12.toNat) ⟨⟨by omega, by omega, by omega, by omega⟩, ⟨Int.le_refl 0, Int.natCast_nonneg _, ?_⟩, ?_⟩
  · rw [Int.toNat_natCast, hpl]
    show NumsIn V _ (filled a.length 0 _)
    rw [filled_zero]; exact NumsIn.zeros _ _
  rintro ⟨t, o⟩ V1 l1 ⟨h0, ht, ho⟩
  dsimp only at h0 ht ho ⊢
  rw [Int.toNat_natCast, hpl, hql]
  refine ⟨fun hlt => ?_, fun hge => ?_⟩
  · simp only [decide_eq_true_eq] at hlt
    have hk : t.toNat < a.length := by omega
    have hfl : (filled a.length t.toNat fun i => nth a i + nth b (i % b.length)).length = a.length := filled_length (by omega) _
    have e1 : IntKind.i64.wrap (t + 1) = t + 1 := i64w (by omega) (by omega)
    have e2 : (t + 1).toNat = t.toNat + 1 := by omega
    have hml : t.toNat % b.length < b.length := Nat.mod_lt _ (by omega)
    have hm : Int.tmod t (b.length : Int) = ((t.toNat % b.length : Nat) : Int) := by
      rw [Int.tmod_eq_emod_of_nonneg h0]
      conv => lhs; rw [← Int.toNat_of_nonneg h0]
      rfl
    rw [hm]
    obtain ⟨hb3, x3, hx3, hs3, hn3⟩ := (hp.le l1).get h0 hk
    obtain ⟨hb4, x4, hx4, hs4, hn4⟩ := (hq.le l1).get (t := ((t.toNat % b.length : Nat) : Int)) (Int.natCast_nonneg _) (by rw [Int.toNat_natCast]; exact hml)
    rw [hpl] at hb3
    rw [hql] at hb4
    rw [Int.toNat_natCast] at hn4
    refine ⟨hb3, x3, hx3, hs3, by omega, hb4, x4, hx4, hs4, (Num_Add_spec hn3 hn4 (hA _ hk) (hB _ hml)).mono fun v V2 l2 ⟨r, hv, hr⟩ => ⟨r, hv, ⟨h0, hlt⟩, Cells.room ho (by rw [hfl]; exact hk), ?_⟩⟩
    rw [e1]
    refine ⟨⟨by omega, by omega, ?_⟩, by omega⟩
    rw [e2, ← filled_set hk]
    exact (ho.le l2).set (by rw [hfl]; exact hk) hr
  · simp only [decide_eq_false_iff_not] at hge
    intro b' V3 l3 hb'
    have e : t.toNat = a.length := by omega
    rw [e, filled_all] at ho
    exact ⟨_, rfl, ListAt.of_made (zs := plusF a b) hb' (ho.le l3) (by rw [plusF_length])⟩

end Go.Proofs.Ytnbjnokgmeamdaa

namespace Go.Proofs.Ytnbjnokgmeamdaa
open Go Go.Vc Go.Proofs

theorem and32 (P : Nat) (h : P < 18446744073709551616) : BitVec.toNat ((BitVec.ofInt IntKind.u64.bits (P : Int)) &&& (BitVec.ofInt IntKind.u64.bits 4294967295)) = P % 4294967296 := by
  rw [BitVec.toNat_and]
  have e1 : (BitVec.ofInt IntKind.u64.bits (P : Int)).toNat = P := of64 h
  have e2 : (BitVec.ofInt IntKind.u64.bits 4294967295).toNat = 2 ^ 32 - 1 := by decide
  rw [e1, e2, Nat.and_two_pow_sub_one_eq_mod]

/-- The divisor's words are taken away, times the guess. -/
structure TakeI (X vN n m j g i cr bo : Nat) (u qd u0 : List Nat) : Prop where
  div : DivI X vN n m (j + 1) u0 qd
  n2 : 2 ≤ n
  nm : n ≤ m
  wn : wn vN = n
  g32 : g < 4294967296
  ge : seg u0 j (n + 1) / vN ≤ g
  gl : (g - 1) * vN ≤ seg u0 j (n + 1)
  i_le : i ≤ n
  wu : WB u
  lu : u.length = m
  cr32 : cr < 4294967296
  bo1 : bo ≤ 1
  out : ∀ p, p < j ∨ j + i ≤ p → u.getD p 0 = u0.getD p 0
  val : seg u j i + g * wval ((dig vN).take i) = seg u0 j i + (cr + bo) * 4294967296 ^ i
/-- The divisor is added back. -/
structure BackI (X vN n m j g k cr : Nat) (u qd u0 l' : List Nat) : Prop where
  div : DivI X vN n m (j + 1) u0 qd
  n2 : 2 ≤ n
  nm : n ≤ m
  wn : wn vN = n
  wl : WB l'
  ll : l'.length = m
  out : ∀ i, i < j ∨ j + n < i → l'.getD i 0 = u0.getD i 0
  eq : seg l' j (n + 1) + g * vN = seg u0 j (n + 1) + 4294967296 ^ (n + 1)
  g32 : g < 4294967296
  ge : seg u0 j (n + 1) / vN ≤ g
  gl : (g - 1) * vN ≤ seg u0 j (n + 1)
  k_le : k ≤ n
  cr1 : cr ≤ 1
  wu : WB u
  lu : u.length = m
  out2 : ∀ i, i < j ∨ j + k ≤ i → u.getD i 0 = l'.getD i 0
  val : seg u j k + cr * 4294967296 ^ k = seg l' j k + seg (dig vN) 0 k

theorem TakeI.jn {X vN n m j g i cr bo : Nat} {u qd u0 : List Nat} (h : TakeI X vN n m j g i cr bo u qd u0) : j + n < m := by
  have := h.div.jl
  have := h.nm
  omega
theorem BackI.jn {X vN n m j g i cr : Nat} {u qd u0 l' : List Nat} (h : BackI X vN n m j g i cr u qd u0 l') : j + n < m := by
  have := h.div.jl
  have := h.nm
  omega
theorem TakeI.step {X vN n m j g i cr bo : Nat} {u qd u0 : List Nat} (h : TakeI X vN n m j g i cr bo u qd u0) (hi : i < n) :
    ∃ low br c : Nat, IntKind.u32.wrap (IntKind.u64.wrap ((IntKind.u64.wrap ((IntKind.u64.wrap ((u.getD (j + i) 0 : Nat) : Int)) - (IntKind.u64.wrap ((BitVec.toNat ((BitVec.ofInt IntKind.u64.bits (IntKind.u64.wrap ((IntKind.u64.wrap ((g : Int) * (IntKind.u64.wrap (((dig vN).getD i 0 : Nat) : Int)))) + (cr : Int)))) &&& (BitVec.ofInt IntKind.u64.bits 4294967295)) : Nat) : Int)))) - (bo : Int))) = (low : Int) ∧
      Int.fdiv (IntKind.u64.wrap ((IntKind.u64.wrap ((IntKind.u64.wrap ((u.getD (j + i) 0 : Nat) : Int)) - (IntKind.u64.wrap ((BitVec.toNat ((BitVec.ofInt IntKind.u64.bits (IntKind.u64.wrap ((IntKind.u64.wrap ((g : Int) * (IntKind.u64.wrap (((dig vN).getD i 0 : Nat) : Int)))) + (cr : Int)))) &&& (BitVec.ofInt IntKind.u64.bits 4294967295)) : Nat) : Int)))) - (bo : Int))) 9223372036854775808 = (br : Int) ∧
      Int.fdiv (IntKind.u64.wrap ((IntKind.u64.wrap ((g : Int) * (IntKind.u64.wrap (((dig vN).getD i 0 : Nat) : Int)))) + (cr : Int))) 4294967296 = (c : Int) ∧
      TakeI X vN n m j g (i + 1) c br (u.set (j + i) low) qd u0 := by
  have hjn := h.jn
  have hvi := (WB_dig vN).getD i
  have hui := h.wu.getD (j + i)
  have hlu := h.lu
  have hc := h.cr32
  have hm' := mul_word h.g32 hvi
  have hu0 : u0.getD (j + i) 0 = u.getD (j + i) 0 := (h.out (j + i) (by omega)).symm
  generalize hA : (dig vN).getD i 0 = A at *
  generalize hU : u.getD (j + i) 0 = U at *
  obtain ⟨P, hP⟩ : ∃ P, P = g * A + cr := ⟨_, rfl⟩
  rw [u64w (n := (A : Int)) (by omega) (by omega), ← Int.natCast_mul, u64w (n := ((g * A : Nat) : Int)) (by omega) (by omega), u64w (n := ((g * A : Nat) : Int) + cr) (by omega) (by omega),
    show ((g * A : Nat) : Int) + cr = (P : Nat) by omega, and32 P (by omega), u64w (n := ((P % 4294967296 : Nat) : Int)) (by omega) (by omega), u64w (n := (U : Int)) (by omega) (by omega), Int.fdiv_eq_ediv_of_nonneg (P : Int) (by omega),
    show (P : Int) / 4294967296 = ((P / 4294967296 : Nat) : Int) by omega]
  obtain ⟨low, br, h1, h2, h3, h4, h5⟩ := borrow_word hui (Nat.mod_lt P (by omega : 0 < 4294967296)) h.bo1
  refine ⟨low, br, _, h4, h5, rfl, h.div, h.n2, h.nm, h.wn, h.g32, h.ge, h.gl, hi, h.wu.set h1, by simpa using hlu, by omega, h2, ?_, ?_⟩
  · intro p hp
    rw [getD_set, if_neg (by omega)]; exact h.out p (by omega)
  · have hval := h.val
    rw [seg_set_last rfl (by omega), seg_succ, wval_take_succ, hA, hu0, Nat.pow_succ]
    have h6 : low + g * A + cr + bo = U + (P / 4294967296 + br) * 4294967296 := by
      have := Nat.div_add_mod P 4294967296
      omega
    have h7 := congrArg (· * 4294967296 ^ i) h6
    simp only [Nat.add_mul] at h7 hval ⊢
    have h8 : g * (wval (List.take i (dig vN)) + A * 4294967296 ^ i) = g * wval (List.take i (dig vN)) + g * A * 4294967296 ^ i := by rw [Nat.mul_add, Nat.mul_assoc]
    have h9 : ∀ z, z * (4294967296 ^ i * 4294967296) = z * 4294967296 * 4294967296 ^ i := by intro z; grind
    rw [h8, h9, h9]
    omega

theorem BackI.step {X vN n m j g k cr : Nat} {u qd u0 l' : List Nat} (h : BackI X vN n m j g k cr u qd u0 l') (hk : k < n) :
    ∃ low c : Nat, IntKind.u32.wrap (IntKind.u64.wrap ((IntKind.u64.wrap ((IntKind.u64.wrap ((u.getD (j + k) 0 : Nat) : Int)) + (IntKind.u64.wrap (((dig vN).getD k 0 : Nat) : Int)))) + (cr : Int))) = (low : Int) ∧
      Int.fdiv (IntKind.u64.wrap ((IntKind.u64.wrap ((IntKind.u64.wrap ((u.getD (j + k) 0 : Nat) : Int)) + (IntKind.u64.wrap (((dig vN).getD k 0 : Nat) : Int)))) + (cr : Int))) 4294967296 = (c : Int) ∧
      BackI X vN n m j g (k + 1) c (u.set (j + k) low) qd u0 l' := by
  have hjn := h.jn
  have hA := (WB_dig vN).getD k
  have hU := h.wu.getD (j + k)
  have hlu := h.lu
  have hcr := h.cr1
  have hL : l'.getD (j + k) 0 = u.getD (j + k) 0 := (h.out2 (j + k) (by omega)).symm
  generalize hA' : (dig vN).getD k 0 = A at *
  generalize hU' : u.getD (j + k) 0 = U at *
  rw [u64w (n := (U : Int)) (by omega) (by omega), u64w (n := (A : Int)) (by omega) (by omega), u64w (n := (U : Int) + A) (by omega) (by omega), u64w (n := (U : Int) + A + cr) (by omega) (by omega), Int.fdiv_eq_ediv_of_nonneg _ (by omega)]
  have K2 : IntKind.u32.wrap ((U : Int) + A + cr) = (((cr + U + A) % 4294967296 : Nat) : Int) := by rw [u32m]; omega
  have K3 : ((U : Int) + A + cr) / 4294967296 = (((cr + U + A) / 4294967296 : Nat) : Int) := by omega
  refine ⟨_, _, K2, K3, h.div, h.n2, h.nm, h.wn, h.wl, h.ll, h.out, h.eq, h.g32, h.ge, h.gl, hk, by omega, h.wu.set (by omega), by simpa using hlu, ?_, ?_⟩
  · intro i hi; rw [getD_set, if_neg (by omega)]; exact h.out2 i (by omega)
  · have hseg := h.val
    rw [seg_set_last rfl (by omega), seg_succ, seg_succ, Nat.zero_add, hA', hL, Nat.pow_succ]
    have h6 : (cr + U + A) % 4294967296 + (cr + U + A) / 4294967296 * 4294967296 = cr + U + A := by omega
    have h7 := congrArg (· * 4294967296 ^ k) h6
    simp only [Nat.add_mul] at h7 hseg ⊢
    have h9 : ∀ z, z * (4294967296 ^ k * 4294967296) = z * 4294967296 * 4294967296 ^ k := by intro z; grind
    rw [h9]
    omega

end Go.Proofs.Ytnbjnokgmeamdaa

namespace Go.Proofs.Ytnbjnokgmeamdaa
open Go Go.Vc Go.Proofs

theorem NatAt.lit {V : View} {b n : Nat} (h : V b = some #[.int .u32 (n : Int)]) (h0 : n ≠ 0) (h1 : n < 4294967296) : NatAt V (Sl.mk (some (Addr.mk b 0 none)) 1 1) n := by
  have e : dig n = [n] := by
    have h2 : n / 4294967296 = 0 := Nat.div_eq_of_lt h1
    rw [dig_pos h0, h2, dig_zero, Nat.mod_eq_of_lt h1]
  unfold NatAt
  rw [e]
  exact Words.of_block (by rw [h]; rfl) rfl (Nat.le_refl _) (by intro d hd; simp at hd; omega)
theorem IntAt.ofNat {V : View} {s : Sl} {n : Nat} (h : NatAt V s n) : IntAt V (WhV.mk false s) (n : Int) := ⟨by simp, h⟩

end Go.Proofs.Ytnbjnokgmeamdaa

namespace Go.Proofs.Ytnbjnokgmeamdaa
open Go Go.Vc Go.Proofs

/-- The cells of a reference's number, and a slice of them. -/
def qC (V : View) (x : List Value) (z : Cq) : Prop := ∃ n : NumV, x = n.val.cells.toList ∧ QAt V n z
theorem qC.le {V V' : View} (hle : V.le V') (x : List Value) (z : Cq) (h : qC V x z) : qC V' x z := by
  obtain ⟨n, e, hn⟩ := h; exact ⟨n, e, hn.le hle⟩
def QsAt (V : View) (s : Sl) (zs : List Cq) : Prop := ListAt 5 qC V s zs
def QsIn (V : View) (o : List Value) (zs : List Cq) : Prop := Cells 5 qC V o zs
theorem QsAt.le {V V' : View} (hle : V.le V') {s : Sl} {zs : List Cq} (h : QsAt V s zs) : QsAt V' s zs := ListAt.le (qC.le hle) hle h
theorem QsIn.le {V V' : View} (hle : V.le V') {o : List Value} {zs : List Cq} (h : QsIn V o zs) : QsIn V' o zs := Cells.imp (qC.le hle) h
theorem QsAt.get {V : View} {s : Sl} {zs : List Cq} (h : QsAt V s zs) {t : Int} (h0 : 0 ≤ t) (h1 : t.toNat < zs.length) :
    ((0 : Int) ≤ t ∧ t < (s.len : Nat) ∧ Option.isSome s.a = true) ∧
    ∃ x : NumV, V.has (Option.map (fun q => Addr.add q (Int.toNat t * 5)) s.a) x.val.cells.toList ∧ Option.isSome (Option.map (fun q => Addr.add q (Int.toNat t * 5)) s.a) = true ∧ QAt V x (nth zs t.toNat) := by
  obtain ⟨hb, x, ⟨n, e, hn⟩, _, h1, h2⟩ := ListAt.get h h0 (nth_get h1)
  exact ⟨hb, n, e ▸ h1, h2, hn⟩
theorem QsIn.set {V : View} {o : List Value} {zs : List Cq} (h : QsIn V o zs) {i : Nat} (hi : i < zs.length) {r : NumV} {z : Cq} (hr : QAt V r z) :
    QsIn V (setL o (0 + i * 5) [.bool r.re.neg, r.re.mag.v, .bool r.im.neg, r.im.mag.v, r.under.v]) (zs.set i z) := Cells.set0 h hi rfl ⟨r, rfl, hr⟩
theorem QsIn.push {V : View} {o : List Value} {zs : List Cq} (h : QsIn V o zs) {r : NumV} {z : Cq} (hr : QAt V r z) :
    QsIn V (o ++ [.bool r.re.neg, r.re.mag.v, .bool r.im.neg, r.im.mag.v, r.under.v]) (zs ++ [z]) := Cells.append h (Cells.one rfl ⟨r, rfl, hr⟩)

end Go.Proofs.Ytnbjnokgmeamdaa

namespace Go.Proofs.Ytnbjnokgmeamdaa
open Go Go.Vc Go.Proofs

theorem QsAt.of_made {V : View} {b n : Nat} {o : List Value} {zs : List Cq} (hb : V b = some o.toArray) (h : QsIn V o zs) (hn : n = zs.length) : QsAt V ⟨some ⟨b, 0, none⟩, n, n⟩ zs := ListAt.of_made hb h hn
end Go.Proofs.Ytnbjnokgmeamdaa

namespace Go.Proofs.Ytnbjnokgmeamdaa
open Go Go.Vc Go.Proofs

theorem transform_length_any {V : View} (n : Int) : CallV Try.prog n_transform_length #[.int .i64 n] V fun v _ => v = .bool (lenB n.toNat) := by
  by_cases h0 : 0 ≤ n
  · exact transform_length_spec h0
  · have e : n.toNat = 0 := by omega
    refine transform_length_vc n V _ ⟨fun h1 => ?_, fun _ => ⟨fun h => absurd h (by simp), fun _ => ?_⟩⟩
    · exfalso; simp at h1; omega
    · rw [e]; rfl

end Go.Proofs.Ytnbjnokgmeamdaa

namespace Go.Proofs.Ytnbjnokgmeamdaa
open Go Go.Vc Go.Proofs

instance (g : GateV) (n : Int) : Decidable (gateOk g n) := inferInstanceAs (Decidable (_ ∧ _ ∧ _ ∧ _))
/-- The error of a gate for a length. -/
def gtE (g : GateV) (n : Int) : Int := if lenB n.toNat = true then (if gateOk g n then 0 else 1) else 4
theorem transform_valid_any {V : View} (g : GateV) (n : Int) : CallV Try.prog n_transform_valid #[g.val, .int .i64 n] V fun v _ => v = .int .i64 (gtE g n) := by
  refine transform_valid_vc g n V _ ((transform_length_any n).mono fun v V1 l1 hv => ⟨_, hv, fun h => ?_, fun h => ⟨fun h1 => ?_, fun h1 => ⟨fun h2 => ?_, fun h2 => ⟨fun h3 => ?_, fun h3 => ⟨fun h4 => ?_, fun h4 => ?_⟩⟩⟩⟩⟩)
  · have : lenB n.toNat = false := by simpa using h
    unfold gtE; rw [this]; rfl
  all_goals
    have hl : lenB n.toNat = true := by simpa using h
    unfold gtE; rw [if_pos hl]
  · simp only [decide_eq_true_eq] at h1
    rw [if_neg (fun x => by have := x.1; omega)]; simp
  · simp only [decide_eq_true_eq] at h2
    rw [if_neg (fun x => by have := x.2.1; omega)]; simp
  · simp only [decide_eq_true_eq] at h3
    rw [if_neg (fun x => by have := x.2.2.1; omega)]; simp
  · simp only [decide_eq_true_eq] at h4
    rw [if_neg (fun x => by have := x.2.2.2; omega)]
  · simp only [decide_eq_false_iff_not] at h1 h2 h3 h4
    rw [if_pos ⟨by omega, by omega, by omega, by omega⟩]
theorem gtE_zero {g : GateV} {n : Nat} : gtE g n = 0 ↔ lenB n = true ∧ gateOk g n := by
  unfold gtE; rw [Int.toNat_natCast]
  split
  · split
    · exact ⟨fun _ => ⟨by assumption, by assumption⟩, fun _ => rfl⟩
    · exact ⟨fun h => absurd h (by decide), fun h => absurd h.2 (by assumption)⟩
  · exact ⟨fun h => absurd h (by decide), fun h => absurd h.1 (by assumption)⟩
end Go.Proofs.Ytnbjnokgmeamdaa

namespace Go.Proofs.Ytnbjnokgmeamdaa
open Go Go.Vc Go.Proofs

/-- The program's search. -/
theorem near_spec {V : View} {p1 p2 p3 : Option Addr} {r : Sl} {B : Nat → Bool} {n k : Nat} {gd : Int} (h1 : V.load p1 = some (.int .i64 gd)) (h2 : V.load p2 = some (.int .i64 (n : Int))) (h3 : V.load p3 = some r.v)
    (hr : BoolsAt V r ((List.range n).map B)) (hk : k < n) (hn : n ≤ 64) (hB : B k = false) :
    CallV Try.prog n_transform_Touched_num_Num__1 #[.int .i64 (k : Int), .pointer p1, .pointer p2, .pointer p3] V fun v _ => v = .bool (nrP B n gd k n) := by
  refine transform_Touched_num_Num__1_vc k p1 p2 p3 V _ (fun _ x _ => ∃ d : Nat, x.t6 = d ∧ 1 ≤ d ∧ d ≤ n + 1 ∧ ∀ e : Nat, 1 ≤ e → e < d → B ((k + e) % n) = false ∧ B ((k + n * e - e) % n) = false) (fun _ x _ => (n + 1 - x.t6).toNat)
    ⟨⟨1, rfl, by omega, by omega, fun e he he' => by omega⟩, ?_⟩
  rintro ⟨t⟩ V1 l1 ⟨d, rfl, d1, dn, hno⟩
  dsimp only
  have hm : (if (n : Int) < gd then (n : Int) else gd) ≤ n ∧ (if (n : Int) < gd then (n : Int) else gd) ≤ gd := by split <;> omega
  have hm2 : (if (n : Int) < gd then (n : Int) else gd) = n ∨ (if (n : Int) < gd then (n : Int) else gd) = gd := by split <;> simp
  refine ⟨gd, View.load_le l1 h1, n, View.load_le l1 h2, fun hle => ?_, fun hgt => ?_⟩
  · simp only [decide_eq_true_eq] at hle
    have hd : d ≤ n := by omega
    have hgd : (d : Int) ≤ gd := by omega
    have hnd : n * d ≤ 64 * 64 := Nat.mul_le_mul hn (by omega)
    have hrl : r.len = n := by have := hr.len; simpa using this
    have e1 : Int.tmod (IntKind.i64.wrap ((k : Int) + d)) (n : Int) = (((k + d) % n : Nat) : Int) := by
      rw [i64w (by omega) (by omega)]; rfl
    have e2 : Int.tmod (IntKind.i64.wrap (IntKind.i64.wrap ((k : Int) + IntKind.i64.wrap ((n : Int) * d)) - d)) (n : Int) = (((k + n * d - d) % n : Nat) : Int) := by
      have em : (n : Int) * (d : Int) = ((n * d : Nat) : Int) := by rw [Int.natCast_mul]
      have hge : d ≤ n * d := Nat.le_mul_of_pos_left _ (by omega)
      rw [em, i64w (n := ((n * d : Nat) : Int)) (by omega) (by omega), i64w (n := (k : Int) + ((n * d : Nat) : Int)) (by omega) (by omega)]
      have e3 : (k : Int) + ((n * d : Nat) : Int) - (d : Int) = ((k + n * d - d : Nat) : Int) := by omega
      rw [e3, i64w (by omega) (by omega)]; rfl
    have m1 : (k + d) % n < n := Nat.mod_lt _ (by omega)
    have m2 : (k + n * d - d) % n < n := Nat.mod_lt _ (by omega)
    obtain ⟨hb1, x1, hx1, _, hh1, _⟩ := ListAt.get (BoolsAt.le l1 hr) (t := (((k + d) % n : Nat) : Int)) (by omega) (z := B ((k + d) % n)) (by rw [Int.toNat_natCast]; simp [m1])
    obtain ⟨hb2, x2, hx2, _, hh2, _⟩ := ListAt.get (BoolsAt.le l1 hr) (t := (((k + n * d - d) % n : Nat) : Int)) (by omega) (z := B ((k + n * d - d) % n)) (by rw [Int.toNat_natCast]; simp [m2])
    refine ⟨r, View.load_le l1 h3, n, View.load_le l1 h2, by omega, ?_⟩
    rw [e1]
    refine ⟨hb1, B ((k + d) % n), bool_load (by rw [show x1 = _ from hx1] at hh1; exact hh1), fun k1 => ?_, fun k1 => ⟨r, View.load_le l1 h3, n, View.load_le l1 h2, n, View.load_le l1 h2, by omega, ?_⟩⟩
    · rw [near_found hk hB d1 hd hgd (.inl k1)]
    rw [e2]
    refine ⟨hb2, B ((k + n * d - d) % n), bool_load (by rw [show x2 = _ from hx2] at hh2; exact hh2), fun k2 => ?_, fun k2 => ?_⟩
    · rw [near_found hk hB d1 hd hgd (.inr k2)]
    · rw [i64w (by omega) (by omega)]
      refine ⟨⟨d + 1, by omega, by omega, by omega, fun e he he' => ?_⟩, by omega⟩
      by_cases c : e = d
      · subst c; exact ⟨k1, k2⟩
      · exact hno e he (by omega)
  · simp only [decide_eq_false_iff_not] at hgt
    rw [near_none hk fun e he hg hen => hno e he (by omega)]

def intC (_ : View) (x : List Value) (z : Int) : Prop := x = [.int .i64 z]
def IntsAt (V : View) (s : Sl) (l : List Int) : Prop := ListAt 1 intC V s l
theorem IntsAt.le {V V' : View} (hle : V.le V') {s : Sl} {l : List Int} (h : IntsAt V s l) : IntsAt V' s l := ListAt.le (P := intC) (V := V) (V' := V') (fun _ _ h => h) hle h
theorem ints_imp {V V' : View} {o : List Value} {l : List Int} (h : Cells 1 intC V o l) : Cells 1 intC V' o l := Cells.imp (P := intC) (V := V) (P' := intC) (V' := V') (fun _ _ h => h) h
theorem known_load {V : View} {b : Nat} {v : Value} (h : V b = some (List.toArray [v])) : V.load (some (Addr.mk b 0 none)) = some v := by simp [View.load, h]
theorem has_one {V : View} {b : Nat} {v : Value} (h : V b = some #[v]) : V.has (some (Addr.mk b 0 none)) [v] := has_block (l := [v]) h

/-- The positions that are touched. -/
def tchA (zs : List Cq) (g : GateV) (gd : Int) : List Int := if gtE g zs.length = 0 then tchL (inG zs.length g.from_.toNat g.count.toNat) zs.length gd zs zs.length else []

theorem Touched_any {V : View} {s : Sl} {zs : List Cq} (g : GateV) (gd : Int) (h : NumsAt V s zs) (hS : ∀ i, i < zs.length → (nth zs i).sz ≤ 2 ^ 40) :
    CallV Try.prog n_transform_Touched_num_Num_ #[s.v, g.val, .int .i64 gd] V fun v V' => ∃ r : Sl, v = .tuple #[r.v, .int .i64 (gtE g zs.length)] ∧ IntsAt V' r (tchA zs g gd) := by
  have hl := h.len
  refine transform_Touched_num_Num__vc s g gd V _ (fun _ x V' => ∃ k : Nat, x.t28 = (k : Int) ∧ k ≤ zs.length ∧ ∃ l, LstOk 1 x.t12l x.t12c x.o12 l ∧ x.t12l = (tchL (inG zs.length g.from_.toNat g.count.toNat) zs.length gd zs k).length ∧ Cells 1 intC V' l (tchL (inG zs.length g.from_.toNat g.count.toNat) zs.length gd zs k))
    (fun _ x _ => (zs.length - x.t28).toNat) ?_
  rw [hl]
  refine (transform_valid_any g _).mono fun v V1 l1 hv => ⟨_, hv, fun h1 => ?_, fun h1 => ?_⟩
  · have h1 : gtE g zs.length ≠ 0 := by simpa using h1
    unfold tchA; rw [if_neg h1]
    exact ⟨_, rfl, ListAt.nil⟩
  have h1 : gtE g zs.length = 0 := by simpa using h1
  obtain ⟨c1, c2⟩ := gtE_zero.1 h1
  have hb := lenB_le c1
  unfold tchA; rw [if_pos h1, h1]
  refine (within_spec c2 hb.2).mono fun v V2 l2 ⟨r, hv, hr⟩ => ⟨r, hv, fun b1 V3 l3 hb1 b2 V4 l4 hb2 b3 V5 l5 hb3 => ?_⟩
  have hgl : gList zs.length g.from_.toNat g.count.toNat = (List.range zs.length).map (inG zs.length g.from_.toNat g.count.toNat) := rfl
  rw [hgl] at hr
  generalize inG zs.length g.from_.toNat g.count.toNat = B at hr ⊢
  have hrl : r.len = zs.length := by have := hr.len; simpa using this
  refine ⟨⟨0, rfl, by omega, [], LstOk.nil, rfl, rfl⟩, ?_⟩
  rintro ⟨n, c, t, o⟩ V6 l6 ⟨k, rfl, hk, l, hlo, hn, hin⟩
  dsimp only at hlo hn hin ⊢
  refine ⟨fun hlt => ?_, fun hge b V11 l11 hb11 => ?_⟩
  · simp only [decide_eq_true_eq] at hlt
    have hk' : k < zs.length := by omega
    have w1 : IntKind.i64.wrap ((k : Int) + 1) = (k : Int) + 1 := i64w (by omega) (by omega)
    rw [w1]
    have ld1 : V6.load (some (Addr.mk b1 0 none)) = some (.int .i64 gd) := View.load_le (View.le_trans l4 (View.le_trans l5 l6)) (known_load hb1)
    have ld2 : V6.load (some (Addr.mk b2 0 none)) = some (.int .i64 (zs.length : Int)) := View.load_le (View.le_trans l5 l6) (known_load hb2)
    have ld3 : V6.load (some (Addr.mk b3 0 none)) = some r.v := View.load_le l6 (known_load hb3)
    have hr6 := BoolsAt.le (View.le_trans l3 (View.le_trans l4 (View.le_trans l5 l6))) hr
    have L6 : View.le V V6 := View.le_trans l1 (View.le_trans l2 (View.le_trans l3 (View.le_trans l4 (View.le_trans l5 l6))))
    obtain ⟨hbx, x, hx, _, hh, _⟩ := ListAt.get hr6 (t := (k : Int)) (by omega) (z := B k) (by simp [hk'])
    have stay : ∀ {V' : View}, tchL B zs.length gd zs (k + 1) = tchL B zs.length gd zs k → ∃ k2 : Nat, (k : Int) + 1 = k2 ∧ k2 ≤ zs.length ∧ ∃ l, LstOk 1 n c o l ∧ n = (tchL B zs.length gd zs k2).length ∧ Cells 1 intC V' l (tchL B zs.length gd zs k2) := by
      intro V' e
      refine ⟨k + 1, by omega, by omega, l, hlo, ?_, ?_⟩
      · rw [e]; exact hn
      · rw [e]; exact ints_imp hin
    refine ⟨r, ld3, hbx, B k, bool_load (by rw [show x = _ from hx] at hh; exact hh), fun k1 => ?_, fun k1 => ?_⟩
    · have hBk : B k = false := by simpa using k1
      refine (near_spec ld1 ld2 ld3 hr6 hk' hb.2 hBk).mono fun v V7 l7 hv => ⟨_, hv, fun k2 => ?_, fun k2 => ?_⟩
      · obtain ⟨hb4, x4, hx4, hs4, hn4⟩ := (h.le (View.le_trans L6 l7)).get (t := (k : Int)) (by omega) (by rw [Int.toNat_natCast]; exact hk')
        rw [hl] at hb4
        rw [Int.toNat_natCast] at hn4
        refine ⟨hb4, x4, hx4, hs4, (of_spec (p := 0) (q := 1) (by decide) (by decide) (by decide) (by decide) (by decide)).mono fun v V8 l8 ⟨z, hv, hz⟩ => ⟨z, hv, ?_⟩⟩
        have e0 : (⟨((0 : Int) : Rat) / ((1 : Int) : Rat), ((0 : Int) : Rat) / ((1 : Int) : Rat)⟩ : Cq) = Cq.zero := Cq.ext' (by simp [Rat.div_def]; rfl) (by simp [Rat.div_def]; rfl)
        rw [e0] at hz
        refine (Num_Same_spec (hn4.le l8) hz (hS _ hk') (by have := Cq.sz_zero; omega)).mono fun v V9 l9 hv => ⟨_, hv, fun k3 b4 V10 l10 hf hb4' => ?_, fun k3 => ?_⟩
        · have k3 : nth zs k ≠ Cq.zero := by simpa using k3
          have hlen := tchL_length B zs.length gd zs k
          refine ⟨l, _, hlo, has_one hb4', rfl, ?_, ?_, ?_, fun c1 l3 hl3 => ?_⟩
          · intro v hv; simp at hv; subst hv; rfl
          · simp only [maxLen]; omega
          · omega
          · refine ⟨⟨k + 1, by omega, by omega, _, hl3, ?_, ?_⟩, by omega⟩
            · rw [tchL_yes k2 k3]; simp; omega
            · rw [tchL_yes k2 k3]; exact (ints_imp hin).append (Cells.one rfl rfl)
        · have k3 : nth zs k = Cq.zero := by simpa using k3
          exact ⟨stay (tchL_no2 k3), by omega⟩
      · exact ⟨stay (tchL_no1 k2), by omega⟩
    · have hBk : B k = true := by simpa using k1
      have : nrP B zs.length gd k zs.length = false := by
        cases e : nrP B zs.length gd k zs.length with
        | false => rfl
        | true => obtain ⟨_, _, _, h4, _⟩ := nrP_true.1 e; rw [hBk] at h4; simp at h4
      exact ⟨stay (tchL_no1 this), by omega⟩
  · simp only [decide_eq_false_iff_not] at hge
    have hk' : k = zs.length := by omega
    subst hk'
    exact ⟨_, rfl, ListAt.of_lst hlo hb11 (ints_imp hin) hn⟩

end Go.Proofs.Ytnbjnokgmeamdaa

namespace Go.Proofs.Ytnbjnokgmeamdaa
open Go Go.Vc Go.Proofs

theorem shift_five {p : Int} (h : 0 ≤ p) : ∃ m : Nat, m ≤ 4 ∧ IntKind.i64.wrap (1 * 2 ^ (min (Int.toNat (Int.tmod p 5)) (IntKind.bits .i64))) = ((2 ^ m : Nat) : Int) := by
  have : Int.tmod p 5 = 0 ∨ Int.tmod p 5 = 1 ∨ Int.tmod p 5 = 2 ∨ Int.tmod p 5 = 3 ∨ Int.tmod p 5 = 4 := by
    rw [Int.tmod_eq_emod_of_nonneg h]; omega
  refine ⟨(Int.tmod p 5).toNat, by omega, ?_⟩
  rcases this with e | e | e | e | e <;> rw [e] <;> decide
theorem cutF_congr {zs : List Cq} {B B' : Nat → Bool} (h : ∀ i, i < zs.length → B i = B' i) : cutF zs B = cutF zs B' := by
  unfold cutF
  apply List.map_congr_left
  intro i hi
  rw [h i (by simpa using hi)]

/-- The call of TransformParts returns true. -/
theorem TransformParts_spec {V : View} {s : Sl} {rs : List RatV} {p q r : Int} (h : RatsAt V s rs) (hr : rs.length < 2 ^ 64) (p0 : 0 ≤ p) (p1 : p ≤ 255) (q0 : 0 ≤ q) (q1 : q ≤ 255) (r0 : 0 ≤ r) (r1 : r ≤ 255) :
    CallV Try.prog n_waveportlaw07_TransformParts #[s.v, .int .u8 p, .int .u8 q, .int .u8 r] V fun v _ => v = .bool true := by
  obtain ⟨m, hm, hsh⟩ := shift_five p0
  have hmod : 0 ≤ Int.tmod p 5 := by rw [Int.tmod_eq_emod_of_nonneg p0]; omega
  have hlen : lenB (2 ^ m) = true := lenB_pow m (by simp; omega)
  have hp1 : 1 ≤ 2 ^ m := Nat.pow_pos (by omega)
  have hp4 : 2 ^ m ≤ 16 := by
    have : 2 ^ m ≤ 2 ^ 4 := Nat.pow_le_pow_right (by omega) hm
    omega
  refine waveportlaw07_TransformParts_vc s p q r V _ ⟨fun _ => awake_spec.mono fun v V1 _ hv => ⟨_, hv, rfl⟩, fun _ => ⟨hmod, ?_⟩⟩
  rw [hsh]
  generalize hN : 2 ^ m = N at hp4 hp1 hlen
  have w1 : IntKind.i64.wrap ((N : Int) + 1) = (N : Int) + 1 := i64w (by omega) (by omega)
  have w2 : IntKind.i64.wrap q = q := i64w (by omega) (by omega)
  have w3 : IntKind.i64.wrap r = r := i64w (by omega) (by omega)
  obtain ⟨f, hf, hfN⟩ : ∃ f : Nat, Int.tmod q (N : Int) = f ∧ f < N := by
    rw [Int.tmod_eq_emod_of_nonneg q0]
    have g1 := Int.emod_nonneg q (b := (N : Int)) (by omega)
    have g2 := Int.emod_lt_of_pos q (b := (N : Int)) (by omega)
    exact ⟨(q % (N : Int)).toNat, by omega, by omega⟩
  obtain ⟨c, hc, hcN⟩ : ∃ c : Nat, Int.tmod r ((N : Int) + 1) = c ∧ c ≤ N := by
    rw [Int.tmod_eq_emod_of_nonneg r0]
    have g1 := Int.emod_nonneg r (b := (N : Int) + 1) (by omega)
    have g2 := Int.emod_lt_of_pos r (b := (N : Int) + 1) (by omega)
    exact ⟨(r % ((N : Int) + 1)).toNat, by omega, by omega⟩
  rw [w1, w2, w3, hf, hc]
  have hzl := exactQ_length rs N
  have hzs := exactQ_sz rs N
  refine (repeated_spec h hr (by omega)).mono fun v V1 l1 ⟨y, hv, hy⟩ => ⟨y, hv, ?_⟩
  refine (law1_List_spec hy (fun r hr => (repeatedR_tame rs _ r hr).ok) (by simp [repeatedR]; omega)).mono fun v V2 l2 ⟨x, hv, hx⟩ => ⟨x, hv, by omega, by omega, ?_⟩
  have hx : NumsAt V2 x (exactQ rs N) := hx
  generalize exactQ rs N = zs at hx hzl hzs
  have hxl : x.len = N := by rw [hx.len, hzl]
  have hS40 : ∀ i, i < zs.length → (nth zs i).sz ≤ 2 ^ 40 := by rw [hzl]; intro i hi; have := hzs i hi; omega
  have hg : gateOk (GateV.mk (f : Int) (c : Int)) (N : Int) := ⟨by simp, by simpa using hfN, by simp, by simpa using hcN⟩
  have hmN : (f + c) % N < N := Nat.mod_lt _ (by omega)
  have hg2 : gateOk (GateV.mk ((((f + c) % N : Nat) : Int)) (((N - c : Nat) : Int))) (N : Int) := by
    refine ⟨Int.natCast_nonneg _, ?_, Int.natCast_nonneg _, ?_⟩ <;> simp only [] <;> omega
  have hg3 : gateOk (GateV.mk (f : Int) (N : Int)) (N : Int) := ⟨by simp, by simpa using hfN, Int.natCast_nonneg _, Int.le_refl _⟩
  have hmN2 : ((f + c) % N + (N - c)) % N < N := Nat.mod_lt _ (by omega)
  have hg4 : gateOk (GateV.mk (((((f + c) % N + (N - c)) % N : Nat) : Int)) (((N - (N - c) : Nat) : Int))) (N : Int) := by
    refine ⟨Int.natCast_nonneg _, ?_, Int.natCast_nonneg _, ?_⟩ <;> simp only [] <;> omega
  have e1 : ((f : Int) + (c : Int)) % (N : Int) = (((f + c) % N : Nat) : Int) := rfl
  have e2 : (N : Int) - (c : Int) = ((N - c : Nat) : Int) := by omega
  have e3 : ((((f + c) % N : Nat) : Int) + ((N - c : Nat) : Int)) % (N : Int) = ((((f + c) % N + (N - c)) % N : Nat) : Int) := rfl
  have e4 : (N : Int) - ((N - c : Nat) : Int) = ((N - (N - c) : Nat) : Int) := by omega
  have cutok : ∀ {V : View} {t : Sl} {us : List Cq} {k d : Nat}, us.length = N → gateOk (GateV.mk (k : Int) (d : Int)) (N : Int) → NumsAt V t us →
      CallV Try.prog n_transform_Cut_num_Num_ #[t.v, (GateV.mk (k : Int) (d : Int)).val] V fun v V' => ∃ r : Sl, v = .tuple #[r.v, .int .i64 0] ∧ NumsAt V' r (cutF us (inG N k d)) := by
    intro V t us k d hl hgk ht
    have := Cut_spec (g := GateV.mk (k : Int) (d : Int)) ht (by rw [hl]; exact hlen) (by rw [hl]; exact hgk)
    rw [hl] at this
    exact this
  have csz : ∀ B : Nat → Bool, ∀ i, i < zs.length → (nth (cutF zs B) i).sz ≤ 2 ^ 40 := by
    intro B i hi
    have := cutF_sz zs B 5 (by omega) (by rw [hzl]; exact hzs) i hi
    omega
  have ee1 : ∀ i, i < N → inG N ((f + c) % N) (N - c) i = !inG N f c i := fun i hi => inG_rest hfN hcN hi
  have ee2 : ∀ i, i < N → inG N (((f + c) % N + (N - c)) % N) (N - (N - c)) i = inG N f c i := by
    intro i hi
    rw [inG_rest hmN (by omega) hi, inG_rest hfN hcN hi, Bool.not_not]
  refine (transform_Rest_ok (g := GateV.mk (f : Int) (c : Int)) (n := N) hlen hg).mono fun v V3 l3 hv => ⟨GateV.mk ((((f + c) % N : Nat) : Int)) (((N - c : Nat) : Int)), 0, by rw [hv, e1, e2], ?_⟩
  refine (cutok hzl hg (hx.le l3)).mono fun v V4 l4 ⟨a, hv, ha⟩ => ⟨a, 0, hv, ?_⟩
  refine (cutok hzl hg2 (hx.le (View.le_trans l3 l4))).mono fun v V5 l5 ⟨b, hv, hb⟩ => ⟨b, 0, hv, ?_⟩
  have hal : a.len = N := by rw [ha.len, cutF_length, hzl]
  have hbl : b.len = N := by rw [hb.len, cutF_length, hzl]
  have L5 := View.le_trans l3 (View.le_trans l4 l5)
  refine ⟨fun h => absurd h (by simp), fun _ => ⟨fun h => absurd h (by simp), fun _ => ⟨fun h => absurd h (by simp), fun _ => ⟨fun h => ?_, fun _ => ⟨fun h => ?_, fun _ => ?_⟩⟩⟩⟩⟩
  · exfalso; simp [hal] at h
  · exfalso; simp [hbl] at h
  have ha5 := ha.le l5
  refine (plus_spec ha5 hb (by rw [cutF_length, hzl]; omega) (by rw [cutF_length, hzl]; omega) (by rw [cutF_length]; exact csz _) (by rw [cutF_length]; exact csz _)).mono fun v V6 l6 ⟨t, hv, ht⟩ => ⟨t, hv, ?_⟩
  rw [cutF_rest zs _ _ (by rw [hzl]; exact ee1)] at ht
  refine (are_true ht (hx.le (View.le_trans L5 l6)) (by omega) hS40).mono fun v V7 l7 hv => ⟨_, hv, fun h => absurd h (by simp), fun _ => ?_⟩
  have L7 := View.le_trans l6 l7
  refine (cutok (by rw [cutF_length, hzl]) hg (ha5.le L7)).mono fun v V8 l8 ⟨k, hv, hk⟩ => ⟨k, 0, hv, ?_⟩
  rw [cutF_twice] at hk
  refine (cutok hzl hg3 (hx.le (View.le_trans L5 (View.le_trans L7 l8)))).mono fun v V9 l9 ⟨d, hv, hd⟩ => ⟨d, 0, hv, ?_⟩
  rw [cutF_all (by rw [hzl]; exact fun i hi => inG_all hfN hi)] at hd
  refine (transform_Rest_ok (g := GateV.mk ((((f + c) % N : Nat) : Int)) (((N - c : Nat) : Int))) (n := N) hlen hg2).mono fun v V10 l10 hv => ⟨GateV.mk (((((f + c) % N + (N - c)) % N : Nat) : Int)) (((N - (N - c) : Nat) : Int)), 0, by rw [hv, e3, e4], ?_⟩
  have L10 := View.le_trans L7 (View.le_trans l8 (View.le_trans l9 l10))
  refine (cutok hzl hg4 (hx.le (View.le_trans L5 L10))).mono fun v V11 l11 ⟨u, hv, hu⟩ => ⟨u, 0, hv, ?_⟩
  rw [cutF_congr (by rw [hzl]; exact ee2)] at hu
  have L11 := View.le_trans L10 l11
  have htch : tchA zs (GateV.mk (f : Int) (N : Int)) (N : Int) = [] := by
    unfold tchA
    split
    · unfold tchL
      rw [List.filter_eq_nil_iff.2]
      · rfl
      · intro k hk
        have hk : k < zs.length := by simpa using hk
        have : nrP (inG zs.length f N) zs.length (N : Int) k zs.length = false := by
          cases e : nrP (inG zs.length f N) zs.length (N : Int) k zs.length with
          | false => rfl
          | true =>
            obtain ⟨_, _, _, h4, _⟩ := nrP_true.1 e
            rw [hzl] at h4 hk
            rw [inG_all hfN hk] at h4; simp at h4
        simp only [Int.toNat_natCast]
        rw [this]; simp
    · rfl
  have hgt : gtE (GateV.mk (f : Int) (N : Int)) (zs.length : Int) = 0 := gtE_zero.2 ⟨by rw [hzl]; exact hlen, by rw [hzl]; exact hg3⟩
  refine (Touched_any (GateV.mk (f : Int) (N : Int)) (N : Int) (hx.le (View.le_trans L5 L11)) hS40).mono fun v V12 l12 ⟨i1, hv, hi1⟩ => ⟨i1, 0, by rw [hv, hgt], ?_⟩
  rw [htch] at hi1
  have hil : i1.len = 0 := hi1.len
  have L12 := View.le_trans L11 l12
  have cl : (cutF zs (inG N f c)).length ≤ 2 ^ 32 := by rw [cutF_length]; omega
  have cs : ∀ i, i < (cutF zs (inG N f c)).length → (nth (cutF zs (inG N f c)) i).sz ≤ 2 ^ 40 := by rw [cutF_length]; exact csz _
  refine (are_true (hk.le (View.le_trans l9 (View.le_trans l10 (View.le_trans l11 l12)))) (ha5.le L12) cl cs).mono fun v V13 l13 hv => ⟨_, hv, fun _ => ?_, fun h => absurd h (by simp)⟩
  refine (are_true (hd.le (View.le_trans l10 (View.le_trans l11 (View.le_trans l12 l13)))) (hx.le (View.le_trans L5 (View.le_trans L12 l13))) (by omega) hS40).mono fun v V14 l14 hv => ⟨_, hv, fun _ => ⟨fun _ => ?_, fun h => absurd h (by simp)⟩, fun h => absurd h (by simp)⟩
  refine (are_true (hu.le (View.le_trans l12 (View.le_trans l13 l14))) (ha5.le (View.le_trans L12 (View.le_trans l13 l14))) cl cs).mono fun v V15 l15 hv => ⟨_, hv, fun _ => ⟨fun _ => ⟨fun _ => ?_, fun h => ?_⟩, fun h => absurd h (by simp)⟩, fun h => absurd h (by simp)⟩
  · exact awake_spec.mono fun v V16 _ hv => ⟨_, hv, rfl⟩
  · exfalso; rw [hil] at h; simp at h
end Go.Proofs.Ytnbjnokgmeamdaa
