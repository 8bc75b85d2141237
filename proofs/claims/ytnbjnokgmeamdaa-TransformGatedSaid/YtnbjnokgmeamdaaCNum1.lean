/- What the functions of whole numbers and of complex fractions come to. -/
import Derived.Test.YtnbjnokgmeamdaaCNat7
import Derived.Test.YtnbjnokgmeamdaaFGcd
import Derived.Test.YtnbjnokgmeamdaaFNum1
import Derived.Test.YtnbjnokgmeamdaaVNum
namespace Go.Proofs.Ytnbjnokgmeamdaa
open Go Go.Vc Go.Proofs

theorem nat_gcd_spec {V : View} {s t : Sl} {a b : Nat} (hs : NatAt V s a) (ht : NatAt V t b) (ha : wn a ≤ 2 ^ 43) (hb : wn b ≤ 2 ^ 43) :
    CallV Try.prog n_nat_gcd #[s.v, t.v] V fun v V' => ∃ r : Sl, v = r.v ∧ NatAt V' r (Nat.gcd a b) := by
  refine nat_gcd_vc s t V _ (fun _ x V' => ∃ a' b', NatAt V' x.t0 a' ∧ NatAt V' x.t1 b' ∧ wn a' ≤ 2 ^ 43 ∧ wn b' ≤ 2 ^ 43 ∧ Nat.gcd a' b' = Nat.gcd a b) (fun _ x V' => natVal V' x.t1) ⟨⟨a, b, hs, ht, ha, hb, rfl⟩, ?_⟩
  rintro ⟨x, y⟩ V1 l1 ⟨a', b', hx, hy, wa, wb, hg⟩
  simp only at hx hy ⊢
  have hyl := hy.len
  refine ⟨fun hp => ?_, fun hp => ?_⟩
  · simp only [gt_iff_lt, decide_eq_true_eq] at hp
    have hb0 : b' ≠ 0 := fun e => by rw [← hy.len_zero] at e; omega
    refine (nat_div_spec hx hy wa hb0).mono fun v V2 l2 ⟨q, r, hv, hq, hr⟩ => ⟨q, r, hv, ?_⟩
    have hlt : a' % b' < b' := Nat.mod_lt _ (by omega)
    have hwr : wn (a' % b') ≤ wn b' := wn_mono (Nat.le_of_lt hlt)
    refine ⟨⟨b', a' % b', hy.le l2, hr, wb, by omega, ?_⟩, ?_⟩
    · rw [Nat.gcd_comm, ← Nat.gcd_rec, Nat.gcd_comm]; exact hg
    · rw [natVal_eq hr, natVal_eq hy]; exact hlt
  · simp only [gt_iff_lt, decide_eq_false_iff_not] at hp
    have hb0 : b' = 0 := hy.len_zero.1 (by omega)
    subst hb0
    rw [Nat.gcd_zero_right] at hg
    exact ⟨x, rfl, by rw [← hg]; exact hx⟩

theorem num_wholeOf_spec {V : View} {s : Sl} {n : Nat} (neg : Bool) (h : NatAt V s n) :
    CallV Try.prog n_num_wholeOf #[.bool neg, s.v] V fun v V' => ∃ r : WhV, v = r.val ∧ IntAt V' r (if neg = true then -(n : Int) else n) := by
  have hl := h.len_zero
  refine num_wholeOf_vc neg s V _ ⟨fun hn => ⟨_, rfl, ?_, ?_⟩, fun hn => ⟨_, rfl, ?_, ?_⟩⟩
  · rw [if_pos hn]; simp only [gt_iff_lt, decide_eq_decide]; omega
  · rw [if_pos hn]; simpa using h
  · rw [if_neg (by simp [hn])]; symm; simp only [decide_eq_false_iff_not]; omega
  · rw [if_neg (by simp [hn])]; simpa using h

theorem num_of64_spec {V : View} {n : Int} (h0 : -9223372036854775808 ≤ n) (h1 : n ≤ 9223372036854775807) :
    CallV Try.prog n_num_of64 #[.int .i64 n] V fun v V' => ∃ r : WhV, v = r.val ∧ IntAt V' r n := by
  refine num_of64_vc n V _ ⟨fun hn => ?_, fun hn => ?_⟩
  · simp only [decide_eq_true_eq] at hn
    have e : IntKind.u64.wrap (0 - IntKind.u64.wrap n) = -n := by rw [u64m, u64m]; omega
    rw [e]
    refine (num_natOf_spec (by omega) (by omega)).mono fun v V1 _ ⟨r, hv, hr⟩ => ⟨r, hv, _, rfl, by simp [hn], ?_⟩
    have e2 : n.natAbs = (-n).toNat := by omega
    rw [e2]; exact hr
  · simp only [decide_eq_false_iff_not] at hn
    rw [u64w (by omega) (by omega)]
    refine (num_natOf_spec (by omega) (by omega)).mono fun v V1 _ ⟨r, hv, hr⟩ => ⟨r, hv, _, rfl, by simp [hn], ?_⟩
    have e2 : n.natAbs = n.toNat := by omega
    rw [e2]; exact hr

theorem whole_minus_spec {V : View} {x : WhV} {a : Int} (h : IntAt V x a) :
    CallV Try.prog n_whole_minus #[x.val] V fun v V' => ∃ r : WhV, v = r.val ∧ IntAt V' r (-a) := by
  refine whole_minus_vc x V _ ((num_wholeOf_spec (!x.neg) h.2).mono fun v V1 _ ⟨r, hv, hr⟩ => ⟨r, hv, r, rfl, ?_⟩)
  have e : (if (!x.neg) = true then -(a.natAbs : Int) else (a.natAbs : Int)) = -a := by
    rw [h.1]; simp only [Bool.not_eq_true', decide_eq_false_iff_not]; split <;> omega
  rw [e] at hr; exact hr

theorem whole_plus_spec {V : View} {x y : WhV} {a b : Int} (hx : IntAt V x a) (hy : IntAt V y b) (ha : wn a.natAbs ≤ 2 ^ 43) (hb : wn b.natAbs ≤ 2 ^ 43) :
    CallV Try.prog n_whole_plus #[x.val, y.val] V fun v V' => ∃ r : WhV, v = r.val ∧ IntAt V' r (a + b) := by
  have h1 := hx.1
  have h2 := hy.1
  refine whole_plus_vc x y V _ ⟨fun hs => ?_, fun hs => ?_⟩
  · refine (nat_add_spec hx.2 hy.2 (by omega) (by omega)).mono fun v V1 l1 ⟨r, hv, hr⟩ => ⟨r, hv, ?_⟩
    refine (num_wholeOf_spec x.neg hr).mono fun v V2 _ ⟨w, hv, hw⟩ => ⟨w, hv, w, rfl, ?_⟩
    have e : (if x.neg = true then -((a.natAbs + b.natAbs : Nat) : Int) else ((a.natAbs + b.natAbs : Nat) : Int)) = a + b := by
      rw [h1, h2] at hs; rw [h1]
      by_cases p : a < 0 <;> by_cases q : b < 0 <;> simp [p, q] at hs ⊢ <;> omega
    rw [e] at hw; exact hw
  · refine (nat_cmp_spec hx.2 hy.2 (by omega)).mono fun v V1 l1 hv => ⟨_, hv, fun hc => ?_, fun hc => ?_⟩
    · have hc : b.natAbs ≤ a.natAbs := by
        rcases Nat.lt_or_ge a.natAbs b.natAbs with h | h
        · rw [if_pos h] at hc; simp at hc
        · exact h
      refine (nat_sub_spec (hx.2.le l1) (hy.2.le l1) (by omega) hc).mono fun v V2 l2 ⟨r, hv, hr⟩ => ⟨r, hv, ?_⟩
      refine (num_wholeOf_spec x.neg hr).mono fun v V3 _ ⟨w, hv, hw⟩ => ⟨w, hv, w, rfl, ?_⟩
      have e : (if x.neg = true then -((a.natAbs - b.natAbs : Nat) : Int) else ((a.natAbs - b.natAbs : Nat) : Int)) = a + b := by
        rw [h1, h2] at hs; rw [h1]
        by_cases p : a < 0 <;> by_cases q : b < 0 <;> simp [p, q] at hs ⊢ <;> omega
      rw [e] at hw; exact hw
    · have hc : a.natAbs ≤ b.natAbs := by
        rcases Nat.lt_or_ge b.natAbs a.natAbs with h | h
        · rw [if_neg (by omega), if_neg (by omega)] at hc; simp at hc
        · exact h
      refine (nat_sub_spec (hy.2.le l1) (hx.2.le l1) (by omega) hc).mono fun v V2 l2 ⟨r, hv, hr⟩ => ⟨r, hv, ?_⟩
      refine (num_wholeOf_spec y.neg hr).mono fun v V3 _ ⟨w, hv, hw⟩ => ⟨w, hv, w, rfl, ?_⟩
      have e : (if y.neg = true then -((b.natAbs - a.natAbs : Nat) : Int) else ((b.natAbs - a.natAbs : Nat) : Int)) = a + b := by
        rw [h1, h2] at hs; rw [h2]
        by_cases p : a < 0 <;> by_cases q : b < 0 <;> simp [p, q] at hs ⊢ <;> omega
      rw [e] at hw; exact hw

theorem sign_mul (x y a b : Int) (hx : x = if a < 0 then -1 else 1) (hy : y = if b < 0 then -1 else 1) : a * b = x * y * (a.natAbs * b.natAbs : Nat) := by
  have ha : a = x * a.natAbs := by rw [hx]; split <;> omega
  have hb : b = y * b.natAbs := by rw [hy]; split <;> omega
  rw [Int.natCast_mul]
  conv => lhs; rw [ha, hb]
  grind

theorem whole_times_spec {V : View} {x y : WhV} {a b : Int} (hx : IntAt V x a) (hy : IntAt V y b) (ha : wn a.natAbs ≤ 2 ^ 43) (hb : wn b.natAbs ≤ 2 ^ 43) :
    CallV Try.prog n_whole_times #[x.val, y.val] V fun v V' => ∃ r : WhV, v = r.val ∧ IntAt V' r (a * b) := by
  refine whole_times_vc x y V _ ((nat_mul_spec hx.2 hy.2 (by omega) (by omega)).mono fun v V1 l1 ⟨r, hv, hr⟩ => ⟨r, hv, ?_⟩)
  refine (num_wholeOf_spec (!(x.neg == y.neg)) hr).mono fun v V2 _ ⟨w, hv, hw⟩ => ⟨w, hv, w, rfl, ?_⟩
  have e : (if (!(x.neg == y.neg)) = true then -((a.natAbs * b.natAbs : Nat) : Int) else ((a.natAbs * b.natAbs : Nat) : Int)) = a * b := by
    rw [sign_mul _ _ a b rfl rfl, hx.1, hy.1]
    by_cases p : a < 0 <;> by_cases q : b < 0 <;> simp [p, q]
  rw [e] at hw; exact hw

theorem whole_scaled_spec {V : View} {x : WhV} {s : Sl} {a : Int} {n : Nat} (hx : IntAt V x a) (hs : NatAt V s n) (ha : wn a.natAbs ≤ 2 ^ 43) (hb : wn n ≤ 2 ^ 43) :
    CallV Try.prog n_whole_scaled #[x.val, s.v] V fun v V' => ∃ r : WhV, v = r.val ∧ IntAt V' r (a * n) := by
  refine whole_scaled_vc x s V _ ((nat_mul_spec hx.2 hs (by omega) (by omega)).mono fun v V1 l1 ⟨r, hv, hr⟩ => ⟨r, hv, ?_⟩)
  refine (num_wholeOf_spec x.neg hr).mono fun v V2 _ ⟨w, hv, hw⟩ => ⟨w, hv, w, rfl, ?_⟩
  have e : (if x.neg = true then -((a.natAbs * n : Nat) : Int) else ((a.natAbs * n : Nat) : Int)) = a * n := by
    conv => rhs; rw [hx.val]
    rw [Int.natCast_mul]; split
    · rw [Int.neg_mul]
    · rfl
  rw [e] at hw; exact hw

theorem whole_cmp_spec {V : View} {x y : WhV} {a b : Int} (hx : IntAt V x a) (hy : IntAt V y b) (ha : wn a.natAbs ≤ 2 ^ 43) (hb : wn b.natAbs ≤ 2 ^ 43) :
    CallV Try.prog n_whole_cmp #[x.val, y.val] V fun v V' => v = .int .i64 (cmpZ a b) := by
  refine whole_cmp_vc x y V _ ((whole_minus_spec hy).mono fun v V1 l1 ⟨r, hv, hr⟩ => ⟨r, hv, ?_⟩)
  refine (whole_plus_spec (hx.le l1) hr ha (by rw [Int.natAbs_neg]; exact hb)).mono fun v V2 l2 ⟨w, hv, hw⟩ => ⟨w, hv, fun h => ?_, fun h => ?_⟩
  · have : a + -b < 0 := by have := hw.1; rw [h] at this; simpa using this
    rw [cmpZ_lt (by omega)]
  · have h1 : ¬ a + -b < 0 := by have := hw.1; rw [h] at this; simpa using this
    have h2 := hw.2.len_zero
    by_cases e : a = b
    · have : w.mag.len = 0 := h2.2 (by omega)
      rw [cmpZ_eq e, this]; rfl
    · have : w.mag.len ≠ 0 := fun h => by have := h2.1 h; omega
      rw [cmpZ_gt (by omega)]
      congr 1; split <;> omega

/-- (a + b i)/d in lowest terms. -/
theorem num_over_spec {V : View} {x y : WhV} {s : Sl} {z : Cq} {a b : Int} {d : Nat} (hx : IntAt V x a) (hy : IntAt V y b) (hs : NatAt V s d) (hz : Rep z a b d) (ha : wn a.natAbs ≤ 2 ^ 43) (hb : wn b.natAbs ≤ 2 ^ 43) (hd : wn d ≤ 2 ^ 43) :
    CallV Try.prog n_num_over #[x.val, y.val, s.v] V fun v V' => ∃ r : NumV, v = r.val ∧ NumAt V' r z := by
  obtain ⟨e1, e2, e3⟩ := hz.eqs
  have hp := gcd3_pos a b hz.pos
  have d1 := gcd3_dvd1 a b d
  have d2 := gcd3_dvd2 a b d
  have d3 := gcd3_dvd3 a b d
  refine num_over_vc x y s V _ ((nat_gcd_spec hx.2 hy.2 ha hb).mono fun v V1 l1 ⟨r1, hv, h1⟩ => ⟨r1, hv, ?_⟩)
  have hw1 : wn (Nat.gcd a.natAbs b.natAbs) ≤ 2 ^ 43 := by
    rcases Nat.eq_zero_or_pos a.natAbs with h | h
    · rw [h, Nat.gcd_zero_left]; exact hb
    · exact Nat.le_trans (wn_mono (Nat.le_of_dvd h (Nat.gcd_dvd_left _ _))) ha
  refine (nat_gcd_spec h1 (hs.le l1) hw1 hd).mono fun v V2 l2 ⟨r2, hv, h2⟩ => ⟨r2, hv, ?_⟩
  have hg : Nat.gcd (Nat.gcd a.natAbs b.natAbs) d = gcd3 a b d := rfl
  rw [hg] at h2
  refine (nat_one_spec h2).mono fun v V3 l3 hv => ⟨_, hv, fun hn => ?_, fun hn => ?_⟩
  · have l13 := View.le_trans l1 (View.le_trans l2 l3)
    refine (nat_div_spec (hx.2.le l13) (h2.le l3) ha (by omega)).mono fun v V4 l4 ⟨q1, m1, hv, hq1, _⟩ => ⟨q1, m1, hv, ?_⟩
    refine (nat_div_spec (hy.2.le (View.le_trans l13 l4)) (h2.le (View.le_trans l3 l4)) hb (by omega)).mono fun v V5 l5 ⟨q2, m2, hv, hq2, _⟩ => ⟨q2, m2, hv, ?_⟩
    have l45 := View.le_trans l4 l5
    refine (nat_div_spec (hs.le (View.le_trans l13 l45)) (h2.le (View.le_trans l3 l45)) hd (by omega)).mono fun v V6 l6 ⟨q3, m3, hv, hq3, _⟩ => ⟨q3, m3, hv, ?_⟩
    have f1 : IntAt V6 (WhV.mk x.neg q1) z.A := ⟨by rw [e1, div_lt_zero d1 hp]; exact hx.1, by rw [e1, natAbs_div d1]; exact hq1.le (View.le_trans l5 l6)⟩
    have f2 : IntAt V6 (WhV.mk y.neg q2) z.B := ⟨by rw [e2, div_lt_zero d2 hp]; exact hy.1, by rw [e2, natAbs_div d2]; exact hq2.le l6⟩
    refine (nat_one_spec hq3).mono fun v V7 l7 hv => ⟨_, hv, fun h => ⟨_, rfl, f1.le l7, f2.le l7, ?_⟩, fun h => ⟨_, rfl, f1.le l7, f2.le l7, ?_⟩⟩
    · simp only [decide_eq_true_eq] at h
      rw [e3, if_pos h]; exact NatAt.zero V7
    · simp only [decide_eq_false_iff_not] at h
      rw [e3, if_neg h]; exact hq3.le l7
  · simp only [Bool.not_eq_false', decide_eq_true_eq] at hn
    rw [hn] at e1 e2 e3
    simp only [Int.natCast_one, Int.ediv_one] at e1 e2
    rw [Nat.div_one] at e3
    have l13 := View.le_trans l1 (View.le_trans l2 l3)
    refine (nat_one_spec (hs.le l13)).mono fun v V7 l7 hv => ⟨_, hv, fun h => ⟨_, rfl, ?_, ?_, ?_⟩, fun h => ⟨_, rfl, ?_, ?_, ?_⟩⟩
    · rw [e1]; exact hx.le (View.le_trans l13 l7)
    · rw [e2]; exact hy.le (View.le_trans l13 l7)
    · simp only [decide_eq_true_eq] at h
      rw [e3, if_pos h]; exact NatAt.zero V7
    · rw [e1]; exact hx.le (View.le_trans l13 l7)
    · rw [e2]; exact hy.le (View.le_trans l13 l7)
    · simp only [decide_eq_false_iff_not] at h
      rw [e3, if_neg h]; exact hs.le (View.le_trans l13 l7)

theorem Num_den_spec {V : View} {x : NumV} {z : Cq} (h : NumAt V x z) : CallV Try.prog n_Num_den #[x.val] V fun v V' => ∃ r : Sl, v = r.v ∧ NatAt V' r z.D := by
  have hu := h.under
  have hl := hu.len_zero
  have hD := z.D_pos
  refine Num_den_vc x V _ ⟨fun h0 => ?_, fun h0 => ?_⟩
  · have h0 : x.under.len = 0 := by have : (x.under.len : Int) = 0 := (by simpa using h0); omega
    intro b V1 l1 _ hb
    have hz := hl.1 h0
    have h1 : z.D = 1 := by split at hz <;> omega
    refine ⟨_, rfl, ?_⟩
    rw [h1]
    have : dig 1 = [1] := by rw [dig_pos (by omega)]; simp [dig_zero]
    unfold NatAt; rw [this]
    exact Words.of_block (by rw [hb]; rfl) rfl (Nat.le_refl _) (by intro d hd; simp at hd; omega)
  · have h0 : x.under.len ≠ 0 := by have : ¬ (x.under.len : Int) = 0 := (by simpa using h0); omega
    refine ⟨_, rfl, ?_⟩
    have hz : ¬ (if z.D = 1 then 0 else z.D) = 0 := fun e => h0 (hl.2 e)
    split at hz
    · omega
    · rename_i h1; rw [if_neg h1] at hu; exact hu

theorem num_Int_spec {V : View} {n : Int} (h0 : -9223372036854775808 ≤ n) (h1 : n ≤ 9223372036854775807) :
    CallV Try.prog n_num_Int #[.int .i64 n] V fun v V' => ∃ r : NumV, v = r.val ∧ NumAt V' r ⟨(n : Rat), 0⟩ := by
  obtain ⟨e1, e2, e3⟩ := Cq.ofInt_eqs n
  refine num_Int_vc n V _ ((num_of64_spec h0 h1).mono fun v V1 _ ⟨r, hv, hr⟩ => ⟨r, hv, _, rfl, by rw [e1]; exact hr, by rw [e2]; exact IntAt.zero _, by rw [e3]; exact NatAt.zero _⟩)

theorem wn64 {n : Nat} (h : n ≤ 18446744073709551615) : wn n ≤ 2 ^ 43 := by
  have : wn n ≤ 2 := wn_le_of_lt (by omega)
  omega

/-- (p + q i)/d for d other than 0. -/
theorem num_New_spec {V : View} {p q d : Int} (p0 : -9223372036854775808 ≤ p) (p1 : p ≤ 9223372036854775807) (q0 : -9223372036854775808 ≤ q) (q1 : q ≤ 9223372036854775807) (d0 : -9223372036854775808 ≤ d) (d1 : d ≤ 9223372036854775807) (hd : d ≠ 0) :
    CallV Try.prog n_num_New #[.int .i64 p, .int .i64 q, .int .i64 d] V fun v V' => ∃ r : NumV, v = .tuple #[r.val, .int .i64 0] ∧ NumAt V' r ⟨(p : Rat) / (d : Rat), (q : Rat) / (d : Rat)⟩ := by
  refine num_New_vc p q d V _ ⟨fun h => ?_, fun _ => ?_⟩
  · exact absurd (by simpa using h) hd
  refine (num_of64_spec p0 p1).mono fun v V1 l1 ⟨a, hv, ha⟩ => ⟨a, hv, ?_⟩
  refine (num_of64_spec q0 q1).mono fun v V2 l2 ⟨b, hv, hb⟩ => ⟨b, hv, ?_⟩
  refine (num_of64_spec d0 d1).mono fun v V3 l3 ⟨c, hv, hc⟩ => ⟨c, hv, fun hn => ?_, fun hn => ?_⟩
  · have hneg : d < 0 := by have := hc.1; rw [hn] at this; simpa using this.symm
    refine (whole_minus_spec (ha.le (View.le_trans l2 l3))).mono fun v V4 l4 ⟨a', hv, ha'⟩ => ⟨a', hv, ?_⟩
    refine (whole_minus_spec (hb.le (View.le_trans l3 l4))).mono fun v V5 l5 ⟨b', hv, hb'⟩ => ⟨b', hv, ?_⟩
    refine (num_over_spec (ha'.le l5) hb' (hc.2.le (View.le_trans l4 l5)) ?_ (wn64 (by omega)) (wn64 (by omega)) (wn64 (by omega))).mono fun v V6 l6 ⟨r, hv, hr⟩ => ⟨r, hv, r, rfl, hr⟩
    have e : ((d.natAbs : Nat) : Rat) = -(d : Rat) := by
      have : (d.natAbs : Int) = -d := by omega
      rw [← Rat.intCast_natCast, this]; push_cast; rfl
    refine ⟨by omega, ?_, ?_⟩ <;> (simp only [e]; push_cast; rw [Rat.div_def, Rat.div_def]; grind)
  · have hpos : ¬ d < 0 := by have := hc.1; rw [hn] at this; simpa using this.symm
    refine (num_over_spec (ha.le (View.le_trans l2 l3)) (hb.le l3) hc.2 ?_ (wn64 (by omega)) (wn64 (by omega)) (wn64 (by omega))).mono fun v V6 l6 ⟨r, hv, hr⟩ => ⟨r, hv, r, rfl, hr⟩
    have e : ((d.natAbs : Nat) : Rat) = (d : Rat) := by
      have : (d.natAbs : Int) = d := by omega
      rw [← Rat.intCast_natCast, this]
    refine ⟨by omega, ?_, ?_⟩ <;> simp only [e]

/-- The sizes that the operations need. -/
theorem Cq.wA {z : Cq} (h : z.sz ≤ 2 ^ 40) : wn z.A.natAbs ≤ 2 ^ 35 := wn_bl (by have := z.szA; omega)
theorem Cq.wB {z : Cq} (h : z.sz ≤ 2 ^ 40) : wn z.B.natAbs ≤ 2 ^ 35 := wn_bl (by have := z.szB; omega)
theorem Cq.wD {z : Cq} (h : z.sz ≤ 2 ^ 40) : wn z.D ≤ 2 ^ 35 := wn_bl (by have := z.szD; omega)
theorem wn_muli {a b : Int} {k : Nat} (ha : wn a.natAbs ≤ k) (hb : wn b.natAbs ≤ k) : wn (a * b).natAbs ≤ 2 * k := by
  rw [Int.natAbs_mul]; have := wn_mul_le a.natAbs b.natAbs; omega
theorem wn_addi {a b : Int} {k : Nat} (ha : wn a.natAbs ≤ k) (hb : wn b.natAbs ≤ k) : wn (a + b).natAbs ≤ k + 1 := by
  have := wn_mono (Int.natAbs_add_le a b); have := wn_add_le a.natAbs b.natAbs; omega
theorem wn_negi {a : Int} {k : Nat} (ha : wn a.natAbs ≤ k) : wn (-a).natAbs ≤ k := by rw [Int.natAbs_neg]; exact ha

theorem Num_Add_spec {V : View} {x y : NumV} {z w : Cq} (hx : NumAt V x z) (hy : NumAt V y w) (hz : z.sz ≤ 2 ^ 40) (hw : w.sz ≤ 2 ^ 40) :
    CallV Try.prog n_Num_Add #[x.val, y.val] V fun v V' => ∃ r : NumV, v = r.val ∧ NumAt V' r (z + w) := by
  have zA := Cq.wA hz; have zB := Cq.wB hz; have zD := Cq.wD hz
  have wA := Cq.wA hw; have wB := Cq.wB hw; have wD := Cq.wD hw
  have zD' : wn (z.D : Int).natAbs ≤ 2 ^ 35 := zD
  have wD' : wn (w.D : Int).natAbs ≤ 2 ^ 35 := wD
  have s1 := wn_muli zA wD'; have s2 := wn_muli wA zD'; have s3 := wn_muli zB wD'; have s4 := wn_muli wB zD'
  have s5 := wn_addi s1 s2; have s6 := wn_addi s3 s4
  have s7 := wn_mul_le z.D w.D
  refine Num_Add_vc x y V _ ((Num_den_spec hx).mono fun v V1 l1 ⟨r1, hv, h1⟩ => ⟨r1, hv, ?_⟩)
  replace hx := hx.le l1; replace hy := hy.le l1
  refine (Num_den_spec hy).mono fun v V2 l2 ⟨r2, hv, h2⟩ => ⟨r2, hv, ?_⟩
  replace hx := hx.le l2; replace hy := hy.le l2; replace h1 := h1.le l2
  refine (whole_scaled_spec hx.re h2 (by omega) (by omega)).mono fun v V3 l3 ⟨r3, hv, h3⟩ => ⟨r3, hv, ?_⟩
  replace hx := hx.le l3; replace hy := hy.le l3; replace h1 := h1.le l3; replace h2 := h2.le l3
  refine (whole_scaled_spec hy.re h1 (by omega) (by omega)).mono fun v V4 l4 ⟨r4, hv, h4⟩ => ⟨r4, hv, ?_⟩
  replace hx := hx.le l4; replace hy := hy.le l4; replace h1 := h1.le l4; replace h2 := h2.le l4; replace h3 := h3.le l4
  refine (whole_plus_spec h3 h4 (by omega) (by omega)).mono fun v V5 l5 ⟨r5, hv, h5⟩ => ⟨r5, hv, ?_⟩
  replace hx := hx.le l5; replace hy := hy.le l5; replace h1 := h1.le l5; replace h2 := h2.le l5
  refine (whole_scaled_spec hx.im h2 (by omega) (by omega)).mono fun v V6 l6 ⟨r6, hv, h6⟩ => ⟨r6, hv, ?_⟩
  replace hy := hy.le l6; replace h1 := h1.le l6; replace h2 := h2.le l6; replace h5 := h5.le l6
  refine (whole_scaled_spec hy.im h1 (by omega) (by omega)).mono fun v V7 l7 ⟨r7, hv, h7⟩ => ⟨r7, hv, ?_⟩
  replace h1 := h1.le l7; replace h2 := h2.le l7; replace h5 := h5.le l7; replace h6 := h6.le l7
  refine (whole_plus_spec h6 h7 (by omega) (by omega)).mono fun v V8 l8 ⟨r8, hv, h8⟩ => ⟨r8, hv, ?_⟩
  replace h1 := h1.le l8; replace h2 := h2.le l8; replace h5 := h5.le l8
  refine (nat_mul_spec h1 h2 (by omega) (by omega)).mono fun v V9 l9 ⟨r9, hv, h9⟩ => ⟨r9, hv, ?_⟩
  exact (num_over_spec (h5.le l9) (h8.le l9) h9 (z.canon.rep.add w.canon.rep) (by omega) (by omega) (by omega)).mono fun v V10 _ ⟨r, hv, hr⟩ => ⟨r, hv, r, rfl, hr⟩

theorem Num_Neg_spec {V : View} {x : NumV} {z : Cq} (hx : NumAt V x z) : CallV Try.prog n_Num_Neg #[x.val] V fun v V' => ∃ r : NumV, v = r.val ∧ NumAt V' r (-z) := by
  obtain ⟨e1, e2, e3⟩ := z.neg_eqs
  refine Num_Neg_vc x V _ ((whole_minus_spec hx.re).mono fun v V1 l1 ⟨r1, hv, h1⟩ => ⟨r1, hv, ?_⟩)
  exact (whole_minus_spec (hx.im.le l1)).mono fun v V2 l2 ⟨r2, hv, h2⟩ => ⟨r2, hv, _, rfl, by rw [e1]; exact h1.le l2, by rw [e2]; exact h2, by rw [e3]; exact hx.under.le (View.le_trans l1 l2)⟩

theorem Num_Conj_spec {V : View} {x : NumV} {z : Cq} (hx : NumAt V x z) : CallV Try.prog n_Num_Conj #[x.val] V fun v V' => ∃ r : NumV, v = r.val ∧ NumAt V' r z.conj := by
  obtain ⟨e1, e2, e3⟩ := z.conj_eqs
  exact Num_Conj_vc x V _ ((whole_minus_spec hx.im).mono fun v V1 l1 ⟨r1, hv, h1⟩ => ⟨r1, hv, _, rfl, by rw [e1]; exact hx.re.le l1, by rw [e2]; exact h1, by rw [e3]; exact hx.under.le l1⟩)

theorem Num_Sub_spec {V : View} {x y : NumV} {z w : Cq} (hx : NumAt V x z) (hy : NumAt V y w) (hz : z.sz ≤ 2 ^ 40) (hw : w.sz ≤ 2 ^ 40) :
    CallV Try.prog n_Num_Sub #[x.val, y.val] V fun v V' => ∃ r : NumV, v = r.val ∧ NumAt V' r (z - w) := by
  refine Num_Sub_vc x y V _ ((Num_Neg_spec hy).mono fun v V1 l1 ⟨r1, hv, h1⟩ => ⟨r1, hv, ?_⟩)
  rw [Cq.sub_eq]
  exact (Num_Add_spec (hx.le l1) h1 hz (by rw [Cq.sz_neg]; exact hw)).mono fun v V2 _ ⟨r, hv, hr⟩ => ⟨r, hv, r, rfl, hr⟩

theorem Num_Mul_spec {V : View} {x y : NumV} {z w : Cq} (hx : NumAt V x z) (hy : NumAt V y w) (hz : z.sz ≤ 2 ^ 40) (hw : w.sz ≤ 2 ^ 40) :
    CallV Try.prog n_Num_Mul #[x.val, y.val] V fun v V' => ∃ r : NumV, v = r.val ∧ NumAt V' r (z * w) := by
  have zA := Cq.wA hz; have zB := Cq.wB hz; have zD := Cq.wD hz
  have wA := Cq.wA hw; have wB := Cq.wB hw; have wD := Cq.wD hw
  have s1 := wn_muli zA wA; have s2 := wn_muli zB wB; have s2' := wn_negi s2; have s3 := wn_muli zA wB; have s4 := wn_muli zB wA
  have s5 := wn_addi s1 s2'; have s6 := wn_addi s3 s4
  have s7 := wn_mul_le z.D w.D
  refine Num_Mul_vc x y V _ ((whole_times_spec hx.re hy.re (by omega) (by omega)).mono fun v V1 l1 ⟨r1, hv, h1⟩ => ⟨r1, hv, ?_⟩)
  replace hx := hx.le l1; replace hy := hy.le l1
  refine (whole_times_spec hx.im hy.im (by omega) (by omega)).mono fun v V2 l2 ⟨r2, hv, h2⟩ => ⟨r2, hv, ?_⟩
  replace hx := hx.le l2; replace hy := hy.le l2; replace h1 := h1.le l2
  refine (whole_minus_spec h2).mono fun v V3 l3 ⟨r3, hv, h3⟩ => ⟨r3, hv, ?_⟩
  replace hx := hx.le l3; replace hy := hy.le l3; replace h1 := h1.le l3
  refine (whole_plus_spec h1 h3 (by omega) (by omega)).mono fun v V4 l4 ⟨r4, hv, h4⟩ => ⟨r4, hv, ?_⟩
  replace hx := hx.le l4; replace hy := hy.le l4
  refine (whole_times_spec hx.re hy.im (by omega) (by omega)).mono fun v V5 l5 ⟨r5, hv, h5⟩ => ⟨r5, hv, ?_⟩
  replace hx := hx.le l5; replace hy := hy.le l5; replace h4 := h4.le l5
  refine (whole_times_spec hx.im hy.re (by omega) (by omega)).mono fun v V6 l6 ⟨r6, hv, h6⟩ => ⟨r6, hv, ?_⟩
  replace hx := hx.le l6; replace hy := hy.le l6; replace h4 := h4.le l6; replace h5 := h5.le l6
  refine (whole_plus_spec h5 h6 (by omega) (by omega)).mono fun v V7 l7 ⟨r7, hv, h7⟩ => ⟨r7, hv, ?_⟩
  replace hx := hx.le l7; replace hy := hy.le l7; replace h4 := h4.le l7
  refine (Num_den_spec hx).mono fun v V8 l8 ⟨r8, hv, h8⟩ => ⟨r8, hv, ?_⟩
  replace hy := hy.le l8; replace h4 := h4.le l8; replace h7 := h7.le l8
  refine (Num_den_spec hy).mono fun v V9 l9 ⟨r9, hv, h9⟩ => ⟨r9, hv, ?_⟩
  replace h4 := h4.le l9; replace h7 := h7.le l9; replace h8 := h8.le l9
  refine (nat_mul_spec h8 h9 (by omega) (by omega)).mono fun v V10 l10 ⟨r10, hv, h10⟩ => ⟨r10, hv, ?_⟩
  refine (num_over_spec (h4.le l10) (h7.le l10) h10 ?_ (by omega) (by omega) (by omega)).mono fun v V11 _ ⟨r, hv, hr⟩ => ⟨r, hv, r, rfl, hr⟩
  rw [← Int.sub_eq_add_neg]; exact z.canon.rep.mul w.canon.rep

theorem Num_Same_spec {V : View} {x y : NumV} {z w : Cq} (hx : NumAt V x z) (hy : NumAt V y w) (hz : z.sz ≤ 2 ^ 40) (hw : w.sz ≤ 2 ^ 40) :
    CallV Try.prog n_Num_Same #[x.val, y.val] V fun v V' => v = .bool (decide (z = w)) := by
  have zA := Cq.wA hz; have zB := Cq.wB hz; have zD := Cq.wD hz
  have wA := Cq.wA hw; have wB := Cq.wB hw; have wD := Cq.wD hw
  refine Num_Same_vc x y V _ ((whole_cmp_spec hx.re hy.re (by omega) (by omega)).mono fun v V1 l1 hv => ⟨_, hv, fun h1 => ?_, fun h1 => ⟨(fun h => by cases h), fun _ => ?_⟩⟩)
  · have h1 : z.A = w.A := cmpZ_zero.1 (by simpa using h1)
    refine (whole_cmp_spec (hx.im.le l1) (hy.im.le l1) (by omega) (by omega)).mono fun v V2 l2 hv => ⟨_, hv, fun h2 => ?_, fun h2 => ?_⟩
    · have h2 : z.B = w.B := cmpZ_zero.1 (by simpa using h2)
      refine (nat_cmp_spec (hx.under.le (View.le_trans l1 l2)) (hy.under.le (View.le_trans l1 l2)) ?_).mono fun v V3 l3 hv => ⟨_, hv, ?_⟩
      · split
        · rw [wn_zero]; omega
        · omega
      · have hD1 := z.D_pos
        have hD2 := w.D_pos
        congr 1
        by_cases e : z.D = w.D
        · have : z = w := Cq.eq_of h1 h2 e
          subst this; simp
        · have : z ≠ w := by rintro rfl; exact e rfl
          simp only [this, decide_false]
          have h3 : (if z.D = 1 then 0 else z.D) ≠ (if w.D = 1 then 0 else w.D) := by split <;> split <;> omega
          rw [if_neg h3]
          by_cases h : (if z.D = 1 then 0 else z.D) < (if w.D = 1 then 0 else w.D)
          · rw [if_pos h]; rfl
          · rw [if_neg h]; rfl
    · have h2 : ¬ z.B = w.B := fun e => by rw [cmpZ_zero.2 e] at h2; simp at h2
      have : z ≠ w := by rintro rfl; exact h2 rfl
      simp [this]
  · have h1 : ¬ z.A = w.A := fun e => by rw [cmpZ_zero.2 e] at h1; simp at h1
    have : z ≠ w := by rintro rfl; exact h1 rfl
    simp [this]

theorem Num_Real_spec {V : View} {x : NumV} {z : Cq} (hx : NumAt V x z) : CallV Try.prog n_Num_Real #[x.val] V fun v V' => v = .bool (decide (z.im = 0)) := by
  refine Num_Real_vc x V _ ?_
  have h1 := hx.im.2.len_zero
  have h2 := Cq.B_zero (z := z)
  congr 1
  by_cases e : z.im = 0
  · have : x.im.mag.len = 0 := h1.2 (by rw [h2.2 e]; rfl)
    simp [e, this]
  · have : x.im.mag.len ≠ 0 := fun h => e (h2.1 (by have := h1.1 h; omega))
    simp only [e, decide_false, beq_eq_false_iff_ne, ne_eq]; omega

theorem Num_Cmp_spec {V : View} {x y : NumV} {z w : Cq} (hx : NumAt V x z) (hy : NumAt V y w) (hz : z.sz ≤ 2 ^ 40) (hw : w.sz ≤ 2 ^ 40) :
    CallV Try.prog n_Num_Cmp #[x.val, y.val] V fun v V' => v = .int .i64 (z.cmp w) := by
  have zA := Cq.wA hz; have zB := Cq.wB hz; have zD := Cq.wD hz
  have wA := Cq.wA hw; have wB := Cq.wB hw; have wD := Cq.wD hw
  have zD' : wn (z.D : Int).natAbs ≤ 2 ^ 35 := zD
  have wD' : wn (w.D : Int).natAbs ≤ 2 ^ 35 := wD
  have s1 := wn_muli zA wD'; have s2 := wn_muli wA zD'; have s3 := wn_muli zB wD'; have s4 := wn_muli wB zD'
  have c1 : cmpZ (z.A * w.D) (w.A * z.D) = cmpR z.re w.re := by rw [cmpZ_R z.D_pos w.D_pos, ← z.canon.rep.re, ← w.canon.rep.re]
  have c2 : cmpZ (z.B * w.D) (w.B * z.D) = cmpR z.im w.im := by rw [cmpZ_R z.D_pos w.D_pos, ← z.canon.rep.im, ← w.canon.rep.im]
  refine Num_Cmp_vc x y V _ ((Num_den_spec hy).mono fun v V1 l1 ⟨r1, hv, h1⟩ => ⟨r1, hv, ?_⟩)
  replace hx := hx.le l1; replace hy := hy.le l1
  refine (whole_scaled_spec hx.re h1 (by omega) (by omega)).mono fun v V2 l2 ⟨r2, hv, h2⟩ => ⟨r2, hv, ?_⟩
  replace hx := hx.le l2; replace hy := hy.le l2
  refine (Num_den_spec hx).mono fun v V3 l3 ⟨r3, hv, h3⟩ => ⟨r3, hv, ?_⟩
  replace hx := hx.le l3; replace hy := hy.le l3; replace h2 := h2.le l3
  refine (whole_scaled_spec hy.re h3 (by omega) (by omega)).mono fun v V4 l4 ⟨r4, hv, h4⟩ => ⟨r4, hv, ?_⟩
  replace hx := hx.le l4; replace hy := hy.le l4; replace h2 := h2.le l4
  refine (whole_cmp_spec h2 h4 (by omega) (by omega)).mono fun v V5 l5 hv => ⟨_, hv, fun hn => ?_, fun hn => ?_⟩
  · rw [c1] at hn ⊢
    have hn : cmpR z.re w.re ≠ 0 := by simpa using hn
    unfold Cq.cmp; rw [if_pos hn]
  · rw [c1] at hn
    have hn : ¬ cmpR z.re w.re ≠ 0 := by simpa using hn
    replace hx := hx.le l5; replace hy := hy.le l5
    refine (Num_den_spec hy).mono fun v V6 l6 ⟨r6, hv, h6⟩ => ⟨r6, hv, ?_⟩
    replace hx := hx.le l6; replace hy := hy.le l6
    refine (whole_scaled_spec hx.im h6 (by omega) (by omega)).mono fun v V7 l7 ⟨r7, hv, h7⟩ => ⟨r7, hv, ?_⟩
    replace hx := hx.le l7; replace hy := hy.le l7
    refine (Num_den_spec hx).mono fun v V8 l8 ⟨r8, hv, h8⟩ => ⟨r8, hv, ?_⟩
    replace hx := hx.le l8; replace hy := hy.le l8; replace h7 := h7.le l8
    refine (whole_scaled_spec hy.im h8 (by omega) (by omega)).mono fun v V9 l9 ⟨r9, hv, h9⟩ => ⟨r9, hv, ?_⟩
    replace h7 := h7.le l9
    refine (whole_cmp_spec h7 h9 (by omega) (by omega)).mono fun v V10 l10 hv => ⟨_, hv, ?_⟩
    unfold Cq.cmp; rw [if_neg hn, c2]

theorem Num_Of_spec {V : View} {x y : NumV} {w : Cq} (hy : NumAt V y w) : CallV Try.prog n_Num_Of #[x.val, y.val] V fun v V' => ∃ r : NumV, v = r.val ∧ NumAt V' r w :=
  Num_Of_vc x y V _ ⟨y, rfl, hy⟩

end Go.Proofs.Ytnbjnokgmeamdaa
