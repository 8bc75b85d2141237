/- Part of the proof; it has the parts CNum1 CTr1 COpen COpen3 COpen6 CFl2 CFl5 CElN CMatN CSolN CLin CLeast CSc1 CSc2 CSc5 CTxt CR1 CR2 CR3a CR3. -/
import Derived.Test.YtefkpimcffofaaaGreatPartC
import Derived.Deep.Slices
namespace Go.Proofs.YtefkpimcffofaaaGreat
open Go Go.Vc Go.Proofs
theorem nat_gcd_spec {V : View} {s t : Sl} {a b : Nat} (hs : NatAt V s a) (ht : NatAt V t b) (ha : wn a ≤ 2 ^ 43) (hb : wn b ≤ 2 ^ 43) :
 CallV Tryz.prog n_nat_gcd #[s.v, t.v] V fun v V' => ∃ r : Sl, v = r.v ∧ NatAt V' r (Nat.gcd a b) := by
 refine nat_gcd_vc s t V _ (fun _ x V' => ∃ a' b', NatAt V' x.t0 a' ∧ NatAt V' x.t1 b' ∧ wn a' ≤ 2 ^ 43 ∧ wn b' ≤ 2 ^ 43 ∧ Nat.gcd a' b' = Nat.gcd a b) (fun _ x V' => natVal V' x.t1) ⟨⟨a, b, hs, ht, ha, hb, rfl⟩, ?_⟩
 rintro ⟨x, y⟩ V1 l1 ⟨a', b', hx, hy, wa, wb, hg⟩
 simp only at hx hy ⊢
 have hyl := hy.len
 refine ⟨fun hp => ?_, fun hp => ?_⟩
 · simp only [gt_iff_lt, decide_eq_true_eq] at hp
   have hb0 : b' ≠ 0 := fun e => by rw [← hy.len_zero] at e; omega
   refine (nat_div_spec hx hy wa hb0).mono fun v V2 l2 ⟨q, r, hv, hq, hr⟩ => ⟨q, r, hv, ?_⟩
   have hlt : a' % b' < b' := Nat.mod_lt _ (by omega)
   have hwr : wn (a' % b') ≤ wn b' := wn_mono (Nat.le_of_lt hlt)
   refine ⟨⟨b', a' % b', hy.le l2, hr, wb, by omega, ?_⟩, ?_⟩
   · rw [Nat.gcd_comm, ← Nat.gcd_rec, Nat.gcd_comm]; exact hg
   · rw [natVal_eq hr, natVal_eq hy]; exact hlt
 · simp only [gt_iff_lt, decide_eq_false_iff_not] at hp
   have hb0 : b' = 0 := hy.len_zero.1 (by omega)
   subst hb0
   rw [Nat.gcd_zero_right] at hg
   exact ⟨x, rfl, by rw [← hg]; exact hx⟩
theorem num_wholeOf_spec {V : View} {s : Sl} {n : Nat} (neg : Bool) (h : NatAt V s n) :
 CallV Tryz.prog n_num_wholeOf #[.bool neg, s.v] V fun v V' => ∃ r : WhV, v = r.val ∧ IntAt V' r (if neg = true then -(n : Int) else n) := by
 have hl := h.len_zero
 refine num_wholeOf_vc neg s V _ ⟨fun hn => ⟨_, rfl, ?_, ?_⟩, fun hn => ⟨_, rfl, ?_, ?_⟩⟩
 · rw [if_pos hn]; simp only [gt_iff_lt, decide_eq_decide]; omega
 · rw [if_pos hn]; simpa using h
 · rw [if_neg (by simp [hn])]; symm; simp only [decide_eq_false_iff_not]; omega
 · rw [if_neg (by simp [hn])]; simpa using h
theorem num_of64_spec {V : View} {n : Int} (h0 : -9223372036854775808 ≤ n) (h1 : n ≤ 9223372036854775807) :
 CallV Tryz.prog n_num_of64 #[.int .i64 n] V fun v V' => ∃ r : WhV, v = r.val ∧ IntAt V' r n := by
 refine num_of64_vc n V _ ⟨fun hn => ?_, fun hn => ?_⟩
 · simp only [decide_eq_true_eq] at hn
   have e : IntKind.u64.wrap (0 - IntKind.u64.wrap n) = -n := by rw [u64m, u64m]; omega
   rw [e]
   refine (num_natOf_spec (by omega) (by omega)).mono fun v V1 _ ⟨r, hv, hr⟩ => ⟨r, hv, _, rfl, by simp [hn], ?_⟩
   have e2 : n.natAbs = (-n).toNat := by omega
   rw [e2]; exact hr
 · simp only [decide_eq_false_iff_not] at hn
   rw [u64w (by omega) (by omega)]
   refine (num_natOf_spec (by omega) (by omega)).mono fun v V1 _ ⟨r, hv, hr⟩ => ⟨r, hv, _, rfl, by simp [hn], ?_⟩
   have e2 : n.natAbs = n.toNat := by omega
   rw [e2]; exact hr
theorem whole_minus_spec {V : View} {x : WhV} {a : Int} (h : IntAt V x a) :
 CallV Tryz.prog n_whole_minus #[x.val] V fun v V' => ∃ r : WhV, v = r.val ∧ IntAt V' r (-a) := by
 refine whole_minus_vc x V _ ((num_wholeOf_spec (!x.neg) h.2).mono fun v V1 _ ⟨r, hv, hr⟩ => ⟨r, hv, r, rfl, ?_⟩)
 have e : (if (!x.neg) = true then -(a.natAbs : Int) else (a.natAbs : Int)) = -a := by
  rw [h.1]; simp only [Bool.not_eq_true', decide_eq_false_iff_not]; split <;> omega
 rw [e] at hr; exact hr
theorem whole_plus_spec {V : View} {x y : WhV} {a b : Int} (hx : IntAt V x a) (hy : IntAt V y b) (ha : wn a.natAbs ≤ 2 ^ 43) (hb : wn b.natAbs ≤ 2 ^ 43) :
 CallV Tryz.prog n_whole_plus #[x.val, y.val] V fun v V' => ∃ r : WhV, v = r.val ∧ IntAt V' r (a + b) := by
 have h1 := hx.1
 have h2 := hy.1
 refine whole_plus_vc x y V _ ⟨fun hs => ?_, fun hs => ?_⟩
 · refine (nat_add_spec hx.2 hy.2 (by omega) (by omega)).mono fun v V1 l1 ⟨r, hv, hr⟩ => ⟨r, hv, ?_⟩
   refine (num_wholeOf_spec x.neg hr).mono fun v V2 _ ⟨w, hv, hw⟩ => ⟨w, hv, w, rfl, ?_⟩
   have e : (if x.neg = true then -((a.natAbs + b.natAbs : Nat) : Int) else ((a.natAbs + b.natAbs : Nat) : Int)) = a + b := by
    rw [h1, h2] at hs; rw [h1]
    by_cases p : a < 0 <;> by_cases q : b < 0 <;> simp [p, q] at hs ⊢ <;> omega
   rw [e] at hw; exact hw
 · refine (nat_cmp_spec hx.2 hy.2 (by omega)).mono fun v V1 l1 hv => ⟨_, hv, fun hc => ?_, fun hc => ?_⟩
   · have hc : b.natAbs ≤ a.natAbs := by
       rcases Nat.lt_or_ge a.natAbs b.natAbs with h | h
       · rw [if_pos h] at hc; simp at hc
       · exact h
     refine (nat_sub_spec (hx.2.le l1) (hy.2.le l1) (by omega) hc).mono fun v V2 l2 ⟨r, hv, hr⟩ => ⟨r, hv, ?_⟩
     refine (num_wholeOf_spec x.neg hr).mono fun v V3 _ ⟨w, hv, hw⟩ => ⟨w, hv, w, rfl, ?_⟩
     have e : (if x.neg = true then -((a.natAbs - b.natAbs : Nat) : Int) else ((a.natAbs - b.natAbs : Nat) : Int)) = a + b := by
      rw [h1, h2] at hs; rw [h1]
      by_cases p : a < 0 <;> by_cases q : b < 0 <;> simp [p, q] at hs ⊢ <;> omega
     rw [e] at hw; exact hw
   · have hc : a.natAbs ≤ b.natAbs := by
       rcases Nat.lt_or_ge b.natAbs a.natAbs with h | h
       · rw [if_neg (by omega), if_neg (by omega)] at hc; simp at hc
       · exact h
     refine (nat_sub_spec (hy.2.le l1) (hx.2.le l1) (by omega) hc).mono fun v V2 l2 ⟨r, hv, hr⟩ => ⟨r, hv, ?_⟩
     refine (num_wholeOf_spec y.neg hr).mono fun v V3 _ ⟨w, hv, hw⟩ => ⟨w, hv, w, rfl, ?_⟩
     have e : (if y.neg = true then -((b.natAbs - a.natAbs : Nat) : Int) else ((b.natAbs - a.natAbs : Nat) : Int)) = a + b := by
      rw [h1, h2] at hs; rw [h2]
      by_cases p : a < 0 <;> by_cases q : b < 0 <;> simp [p, q] at hs ⊢ <;> omega
     rw [e] at hw; exact hw
theorem sign_mul (x y a b : Int) (hx : x = if a < 0 then -1 else 1) (hy : y = if b < 0 then -1 else 1) : a * b = x * y * (a.natAbs * b.natAbs : Nat) := by
 have ha : a = x * a.natAbs := by rw [hx]; split <;> omega
 have hb : b = y * b.natAbs := by rw [hy]; split <;> omega
 rw [Int.natCast_mul]
 conv => lhs; rw [ha, hb]
 grind
theorem whole_times_spec {V : View} {x y : WhV} {a b : Int} (hx : IntAt V x a) (hy : IntAt V y b) (ha : wn a.natAbs ≤ 2 ^ 43) (hb : wn b.natAbs ≤ 2 ^ 43) :
 CallV Tryz.prog n_whole_times #[x.val, y.val] V fun v V' => ∃ r : WhV, v = r.val ∧ IntAt V' r (a * b) := by
 refine whole_times_vc x y V _ ((nat_mul_spec hx.2 hy.2 (by omega) (by omega)).mono fun v V1 l1 ⟨r, hv, hr⟩ => ⟨r, hv, ?_⟩)
 refine (num_wholeOf_spec (!(x.neg == y.neg)) hr).mono fun v V2 _ ⟨w, hv, hw⟩ => ⟨w, hv, w, rfl, ?_⟩
 have e : (if (!(x.neg == y.neg)) = true then -((a.natAbs * b.natAbs : Nat) : Int) else ((a.natAbs * b.natAbs : Nat) : Int)) = a * b := by
  rw [sign_mul _ _ a b rfl rfl, hx.1, hy.1]
  by_cases p : a < 0 <;> by_cases q : b < 0 <;> simp [p, q]
 rw [e] at hw; exact hw
theorem whole_scaled_spec {V : View} {x : WhV} {s : Sl} {a : Int} {n : Nat} (hx : IntAt V x a) (hs : NatAt V s n) (ha : wn a.natAbs ≤ 2 ^ 43) (hb : wn n ≤ 2 ^ 43) :
 CallV Tryz.prog n_whole_scaled #[x.val, s.v] V fun v V' => ∃ r : WhV, v = r.val ∧ IntAt V' r (a * n) := by
 refine whole_scaled_vc x s V _ ((nat_mul_spec hx.2 hs (by omega) (by omega)).mono fun v V1 l1 ⟨r, hv, hr⟩ => ⟨r, hv, ?_⟩)
 refine (num_wholeOf_spec x.neg hr).mono fun v V2 _ ⟨w, hv, hw⟩ => ⟨w, hv, w, rfl, ?_⟩
 have e : (if x.neg = true then -((a.natAbs * n : Nat) : Int) else ((a.natAbs * n : Nat) : Int)) = a * n := by
  conv => rhs; rw [hx.val]
  rw [Int.natCast_mul]; split
  · rw [Int.neg_mul]
  · rfl
 rw [e] at hw; exact hw
theorem whole_cmp_spec {V : View} {x y : WhV} {a b : Int} (hx : IntAt V x a) (hy : IntAt V y b) (ha : wn a.natAbs ≤ 2 ^ 43) (hb : wn b.natAbs ≤ 2 ^ 43) :
 CallV Tryz.prog n_whole_cmp #[x.val, y.val] V fun v _ => v = .int .i64 (cmpZ a b) := by
 refine whole_cmp_vc x y V _ ((whole_minus_spec hy).mono fun v V1 l1 ⟨r, hv, hr⟩ => ⟨r, hv, ?_⟩)
 refine (whole_plus_spec (hx.le l1) hr ha (by rw [Int.natAbs_neg]; exact hb)).mono fun v V2 l2 ⟨w, hv, hw⟩ => ⟨w, hv, fun h => ?_, fun h => ?_⟩
 · have : a + -b < 0 := by have := hw.1; rw [h] at this; simpa using this
   rw [cmpZ_lt (by omega)]
 · have h1 : ¬ a + -b < 0 := by have := hw.1; rw [h] at this; simpa using this
   have h2 := hw.2.len_zero
   by_cases e : a = b
   · have : w.mag.len = 0 := h2.2 (by omega)
     rw [cmpZ_eq e, this]; rfl
   · have : w.mag.len ≠ 0 := fun h => by have := h2.1 h; omega
     rw [cmpZ_gt (by omega)]
     congr 1; split <;> omega
theorem num_over_spec {V : View} {x y : WhV} {s : Sl} {z : Cq} {a b : Int} {d : Nat} (hx : IntAt V x a) (hy : IntAt V y b) (hs : NatAt V s d) (hz : Rep z a b d) (ha : wn a.natAbs ≤ 2 ^ 43) (hb : wn b.natAbs ≤ 2 ^ 43) (hd : wn d ≤ 2 ^ 43) :
 CallV Tryz.prog n_num_over #[x.val, y.val, s.v] V fun v V' => ∃ r : NumV, v = r.val ∧ NumAt V' r z := by
 obtain ⟨e1, e2, e3⟩ := hz.eqs
 have hp := gcd3_pos a b hz.pos
 have d1 := gcd3_dvd1 a b d
 have d2 := gcd3_dvd2 a b d
 have d3 := gcd3_dvd3 a b d
 refine num_over_vc x y s V _ ((nat_gcd_spec hx.2 hy.2 ha hb).mono fun v V1 l1 ⟨r1, hv, h1⟩ => ⟨r1, hv, ?_⟩)
 have hw1 : wn (Nat.gcd a.natAbs b.natAbs) ≤ 2 ^ 43 := by
  rcases Nat.eq_zero_or_pos a.natAbs with h | h
  · rw [h, Nat.gcd_zero_left]; exact hb
  · exact Nat.le_trans (wn_mono (Nat.le_of_dvd h (Nat.gcd_dvd_left _ _))) ha
 refine (nat_gcd_spec h1 (hs.le l1) hw1 hd).mono fun v V2 l2 ⟨r2, hv, h2⟩ => ⟨r2, hv, ?_⟩
 have hg : Nat.gcd (Nat.gcd a.natAbs b.natAbs) d = gcd3 a b d := rfl
 rw [hg] at h2
 refine (nat_one_spec h2).mono fun v V3 l3 hv => ⟨_, hv, fun hn => ?_, fun hn => ?_⟩
 · have l13 := View.le_trans l1 (View.le_trans l2 l3)
   refine (nat_div_spec (hx.2.le l13) (h2.le l3) ha (by omega)).mono fun v V4 l4 ⟨q1, m1, hv, hq1, _⟩ => ⟨q1, m1, hv, ?_⟩
   refine (nat_div_spec (hy.2.le (View.le_trans l13 l4)) (h2.le (View.le_trans l3 l4)) hb (by omega)).mono fun v V5 l5 ⟨q2, m2, hv, hq2, _⟩ => ⟨q2, m2, hv, ?_⟩
   have l45 := View.le_trans l4 l5
   refine (nat_div_spec (hs.le (View.le_trans l13 l45)) (h2.le (View.le_trans l3 l45)) hd (by omega)).mono fun v V6 l6 ⟨q3, m3, hv, hq3, _⟩ => ⟨q3, m3, hv, ?_⟩
   have f1 : IntAt V6 (WhV.mk x.neg q1) z.A := ⟨by rw [e1, div_lt_zero d1 hp]; exact hx.1, by rw [e1, natAbs_div d1]; exact hq1.le (View.le_trans l5 l6)⟩
   have f2 : IntAt V6 (WhV.mk y.neg q2) z.B := ⟨by rw [e2, div_lt_zero d2 hp]; exact hy.1, by rw [e2, natAbs_div d2]; exact hq2.le l6⟩
   refine (nat_one_spec hq3).mono fun v V7 l7 hv => ⟨_, hv, fun h => ⟨_, rfl, f1.le l7, f2.le l7, ?_⟩, fun h => ⟨_, rfl, f1.le l7, f2.le l7, ?_⟩⟩
   · simp only [decide_eq_true_eq] at h
     rw [e3, if_pos h]; exact NatAt.zero V7
   · simp only [decide_eq_false_iff_not] at h
     rw [e3, if_neg h]; exact hq3.le l7
 · simp only [Bool.not_eq_false', decide_eq_true_eq] at hn
   rw [hn] at e1 e2 e3
   simp only [Int.natCast_one, Int.ediv_one] at e1 e2
   rw [Nat.div_one] at e3
   have l13 := View.le_trans l1 (View.le_trans l2 l3)
   refine (nat_one_spec (hs.le l13)).mono fun v V7 l7 hv => ⟨_, hv, fun h => ⟨_, rfl, ?_, ?_, ?_⟩, fun h => ⟨_, rfl, ?_, ?_, ?_⟩⟩
   · rw [e1]; exact hx.le (View.le_trans l13 l7)
   · rw [e2]; exact hy.le (View.le_trans l13 l7)
   · simp only [decide_eq_true_eq] at h
     rw [e3, if_pos h]; exact NatAt.zero V7
   · rw [e1]; exact hx.le (View.le_trans l13 l7)
   · rw [e2]; exact hy.le (View.le_trans l13 l7)
   · simp only [decide_eq_false_iff_not] at h
     rw [e3, if_neg h]; exact hs.le (View.le_trans l13 l7)
theorem Num_den_spec {V : View} {x : NumV} {z : Cq} (h : NumAt V x z) : CallV Tryz.prog n_Num_den #[x.val] V fun v V' => ∃ r : Sl, v = r.v ∧ NatAt V' r z.D := by
 have hu := h.under
 have hl := hu.len_zero
 have hD := z.D_pos
 refine Num_den_vc x V _ ⟨fun h0 => ?_, fun h0 => ?_⟩
 · have h0 : x.under.len = 0 := by have : (x.under.len : Int) = 0 := (by simpa using h0); omega
   intro b V1 l1 _ hb
   have hz := hl.1 h0
   have h1 : z.D = 1 := by split at hz <;> omega
   refine ⟨_, rfl, ?_⟩
   rw [h1]
   have : dig 1 = [1] := by rw [dig_pos (by omega)]; simp [dig_zero]
   unfold NatAt; rw [this]
   exact Words.of_block (by rw [hb]; rfl) rfl (Nat.le_refl _) (by intro d hd; simp at hd; omega)
 · have h0 : x.under.len ≠ 0 := by have : ¬ (x.under.len : Int) = 0 := (by simpa using h0); omega
   refine ⟨_, rfl, ?_⟩
   have hz : ¬ (if z.D = 1 then 0 else z.D) = 0 := fun e => h0 (hl.2 e)
   split at hz
   · omega
   · rename_i h1; rw [if_neg h1] at hu; exact hu
theorem num_Int_spec {V : View} {n : Int} (h0 : -9223372036854775808 ≤ n) (h1 : n ≤ 9223372036854775807) :
 CallV Tryz.prog n_num_Int #[.int .i64 n] V fun v V' => ∃ r : NumV, v = r.val ∧ NumAt V' r ⟨(n : Rat), 0⟩ := by
 obtain ⟨e1, e2, e3⟩ := Cq.ofInt_eqs n
 refine num_Int_vc n V _ ((num_of64_spec h0 h1).mono fun v V1 _ ⟨r, hv, hr⟩ => ⟨r, hv, _, rfl, by rw [e1]; exact hr, by rw [e2]; exact IntAt.zero _, by rw [e3]; exact NatAt.zero _⟩)
theorem wn64 {n : Nat} (h : n ≤ 18446744073709551615) : wn n ≤ 2 ^ 43 := by
 have : wn n ≤ 2 := wn_le_of_lt (by omega)
 omega
theorem num_New_spec {V : View} {p q d : Int} (p0 : -9223372036854775808 ≤ p) (p1 : p ≤ 9223372036854775807) (q0 : -9223372036854775808 ≤ q) (q1 : q ≤ 9223372036854775807) (d0 : -9223372036854775808 ≤ d) (d1 : d ≤ 9223372036854775807) (hd : d ≠ 0) :
 CallV Tryz.prog n_num_New #[.int .i64 p, .int .i64 q, .int .i64 d] V fun v V' => ∃ r : NumV, v = .tuple #[r.val, .int .i64 0] ∧ NumAt V' r ⟨(p : Rat) / (d : Rat), (q : Rat) / (d : Rat)⟩ := by
 refine num_New_vc p q d V _ ⟨fun h => ?_, fun _ => ?_⟩
 · exact absurd (by simpa using h) hd
 refine (num_of64_spec p0 p1).mono fun v V1 l1 ⟨a, hv, ha⟩ => ⟨a, hv, ?_⟩
 refine (num_of64_spec q0 q1).mono fun v V2 l2 ⟨b, hv, hb⟩ => ⟨b, hv, ?_⟩
 refine (num_of64_spec d0 d1).mono fun v V3 l3 ⟨c, hv, hc⟩ => ⟨c, hv, fun hn => ?_, fun hn => ?_⟩
 · have hneg : d < 0 := by have := hc.1; rw [hn] at this; simpa using this.symm
   refine (whole_minus_spec (ha.le (View.le_trans l2 l3))).mono fun v V4 l4 ⟨a', hv, ha'⟩ => ⟨a', hv, ?_⟩
   refine (whole_minus_spec (hb.le (View.le_trans l3 l4))).mono fun v V5 l5 ⟨b', hv, hb'⟩ => ⟨b', hv, ?_⟩
   refine (num_over_spec (ha'.le l5) hb' (hc.2.le (View.le_trans l4 l5)) ?_ (wn64 (by omega)) (wn64 (by omega)) (wn64 (by omega))).mono fun v V6 l6 ⟨r, hv, hr⟩ => ⟨r, hv, r, rfl, hr⟩
   have e : ((d.natAbs : Nat) : Rat) = -(d : Rat) := by
    have : (d.natAbs : Int) = -d := by omega
    rw [← Rat.intCast_natCast, this]; push_cast; rfl
   refine ⟨by omega, ?_, ?_⟩ <;> (simp only [e]; push_cast; rw [Rat.div_def, Rat.div_def]; grind)
 · have hpos : ¬ d < 0 := by have := hc.1; rw [hn] at this; simpa using this.symm
   refine (num_over_spec (ha.le (View.le_trans l2 l3)) (hb.le l3) hc.2 ?_ (wn64 (by omega)) (wn64 (by omega)) (wn64 (by omega))).mono fun v V6 l6 ⟨r, hv, hr⟩ => ⟨r, hv, r, rfl, hr⟩
   have e : ((d.natAbs : Nat) : Rat) = (d : Rat) := by
    have : (d.natAbs : Int) = d := by omega
    rw [← Rat.intCast_natCast, this]
   refine ⟨by omega, ?_, ?_⟩ <;> simp only [e]
theorem Cq.wA {z : Cq} (h : z.sz ≤ 2 ^ 40) : wn z.A.natAbs ≤ 2 ^ 35 := wn_bl (by have := z.szA; omega)
theorem Cq.wB {z : Cq} (h : z.sz ≤ 2 ^ 40) : wn z.B.natAbs ≤ 2 ^ 35 := wn_bl (by have := z.szB; omega)
theorem Cq.wD {z : Cq} (h : z.sz ≤ 2 ^ 40) : wn z.D ≤ 2 ^ 35 := wn_bl (by have := z.szD; omega)
theorem wn_muli {a b : Int} {k : Nat} (ha : wn a.natAbs ≤ k) (hb : wn b.natAbs ≤ k) : wn (a * b).natAbs ≤ 2 * k := by
 rw [Int.natAbs_mul]; have := wn_mul_le a.natAbs b.natAbs; omega
theorem wn_addi {a b : Int} {k : Nat} (ha : wn a.natAbs ≤ k) (hb : wn b.natAbs ≤ k) : wn (a + b).natAbs ≤ k + 1 := by
 have := wn_mono (Int.natAbs_add_le a b); have := wn_add_le a.natAbs b.natAbs; omega
theorem wn_negi {a : Int} {k : Nat} (ha : wn a.natAbs ≤ k) : wn (-a).natAbs ≤ k := by rw [Int.natAbs_neg]; exact ha
theorem Num_Add_spec {V : View} {x y : NumV} {z w : Cq} (hx : NumAt V x z) (hy : NumAt V y w) (hz : z.sz ≤ 2 ^ 40) (hw : w.sz ≤ 2 ^ 40) :
 CallV Tryz.prog n_Num_Add #[x.val, y.val] V fun v V' => ∃ r : NumV, v = r.val ∧ NumAt V' r (z + w) := by
 have zA := Cq.wA hz; have zB := Cq.wB hz; have zD := Cq.wD hz
 have wA := Cq.wA hw; have wB := Cq.wB hw; have wD := Cq.wD hw
 have zD' : wn (z.D : Int).natAbs ≤ 2 ^ 35 := zD
 have wD' : wn (w.D : Int).natAbs ≤ 2 ^ 35 := wD
 have s1 := wn_muli zA wD'; have s2 := wn_muli wA zD'; have s3 := wn_muli zB wD'; have s4 := wn_muli wB zD'
 have s5 := wn_addi s1 s2; have s6 := wn_addi s3 s4
 have s7 := wn_mul_le z.D w.D
 refine Num_Add_vc x y V _ ((Num_den_spec hx).mono fun v V1 l1 ⟨r1, hv, h1⟩ => ⟨r1, hv, ?_⟩)
 replace hx := hx.le l1; replace hy := hy.le l1
 refine (Num_den_spec hy).mono fun v V2 l2 ⟨r2, hv, h2⟩ => ⟨r2, hv, ?_⟩
 replace hx := hx.le l2; replace hy := hy.le l2; replace h1 := h1.le l2
 refine (whole_scaled_spec hx.re h2 (by omega) (by omega)).mono fun v V3 l3 ⟨r3, hv, h3⟩ => ⟨r3, hv, ?_⟩
 replace hx := hx.le l3; replace hy := hy.le l3; replace h1 := h1.le l3; replace h2 := h2.le l3
 refine (whole_scaled_spec hy.re h1 (by omega) (by omega)).mono fun v V4 l4 ⟨r4, hv, h4⟩ => ⟨r4, hv, ?_⟩
 replace hx := hx.le l4; replace hy := hy.le l4; replace h1 := h1.le l4; replace h2 := h2.le l4; replace h3 := h3.le l4
 refine (whole_plus_spec h3 h4 (by omega) (by omega)).mono fun v V5 l5 ⟨r5, hv, h5⟩ => ⟨r5, hv, ?_⟩
 replace hx := hx.le l5; replace hy := hy.le l5; replace h1 := h1.le l5; replace h2 := h2.le l5
 refine (whole_scaled_spec hx.im h2 (by omega) (by omega)).mono fun v V6 l6 ⟨r6, hv, h6⟩ => ⟨r6, hv, ?_⟩
 replace hy := hy.le l6; replace h1 := h1.le l6; replace h2 := h2.le l6; replace h5 := h5.le l6
 refine (whole_scaled_spec hy.im h1 (by omega) (by omega)).mono fun v V7 l7 ⟨r7, hv, h7⟩ => ⟨r7, hv, ?_⟩
 replace h1 := h1.le l7; replace h2 := h2.le l7; replace h5 := h5.le l7; replace h6 := h6.le l7
 refine (whole_plus_spec h6 h7 (by omega) (by omega)).mono fun v V8 l8 ⟨r8, hv, h8⟩ => ⟨r8, hv, ?_⟩
 replace h1 := h1.le l8; replace h2 := h2.le l8; replace h5 := h5.le l8
 refine (nat_mul_spec h1 h2 (by omega) (by omega)).mono fun v V9 l9 ⟨r9, hv, h9⟩ => ⟨r9, hv, ?_⟩
 exact (num_over_spec (h5.le l9) (h8.le l9) h9 (z.canon.rep.add w.canon.rep) (by omega) (by omega) (by omega)).mono fun v V10 _ ⟨r, hv, hr⟩ => ⟨r, hv, r, rfl, hr⟩
theorem Num_Neg_spec {V : View} {x : NumV} {z : Cq} (hx : NumAt V x z) : CallV Tryz.prog n_Num_Neg #[x.val] V fun v V' => ∃ r : NumV, v = r.val ∧ NumAt V' r (-z) := by
 obtain ⟨e1, e2, e3⟩ := z.neg_eqs
 refine Num_Neg_vc x V _ ((whole_minus_spec hx.re).mono fun v V1 l1 ⟨r1, hv, h1⟩ => ⟨r1, hv, ?_⟩)
 exact (whole_minus_spec (hx.im.le l1)).mono fun v V2 l2 ⟨r2, hv, h2⟩ => ⟨r2, hv, _, rfl, by rw [e1]; exact h1.le l2, by rw [e2]; exact h2, by rw [e3]; exact hx.under.le (View.le_trans l1 l2)⟩
theorem Num_Conj_spec {V : View} {x : NumV} {z : Cq} (hx : NumAt V x z) : CallV Tryz.prog n_Num_Conj #[x.val] V fun v V' => ∃ r : NumV, v = r.val ∧ NumAt V' r z.conj := by
 obtain ⟨e1, e2, e3⟩ := z.conj_eqs
 exact Num_Conj_vc x V _ ((whole_minus_spec hx.im).mono fun v V1 l1 ⟨r1, hv, h1⟩ => ⟨r1, hv, _, rfl, by rw [e1]; exact hx.re.le l1, by rw [e2]; exact h1, by rw [e3]; exact hx.under.le l1⟩)
theorem Num_Sub_spec {V : View} {x y : NumV} {z w : Cq} (hx : NumAt V x z) (hy : NumAt V y w) (hz : z.sz ≤ 2 ^ 40) (hw : w.sz ≤ 2 ^ 40) :
 CallV Tryz.prog n_Num_Sub #[x.val, y.val] V fun v V' => ∃ r : NumV, v = r.val ∧ NumAt V' r (z - w) := by
 refine Num_Sub_vc x y V _ ((Num_Neg_spec hy).mono fun v V1 l1 ⟨r1, hv, h1⟩ => ⟨r1, hv, ?_⟩)
 rw [Cq.sub_eq]
 exact (Num_Add_spec (hx.le l1) h1 hz (by rw [Cq.sz_neg]; exact hw)).mono fun v V2 _ ⟨r, hv, hr⟩ => ⟨r, hv, r, rfl, hr⟩
theorem Num_Mul_spec {V : View} {x y : NumV} {z w : Cq} (hx : NumAt V x z) (hy : NumAt V y w) (hz : z.sz ≤ 2 ^ 40) (hw : w.sz ≤ 2 ^ 40) :
 CallV Tryz.prog n_Num_Mul #[x.val, y.val] V fun v V' => ∃ r : NumV, v = r.val ∧ NumAt V' r (z * w) := by
 have zA := Cq.wA hz; have zB := Cq.wB hz; have zD := Cq.wD hz
 have wA := Cq.wA hw; have wB := Cq.wB hw; have wD := Cq.wD hw
 have s1 := wn_muli zA wA; have s2 := wn_muli zB wB; have s2' := wn_negi s2; have s3 := wn_muli zA wB; have s4 := wn_muli zB wA
 have s5 := wn_addi s1 s2'; have s6 := wn_addi s3 s4
 have s7 := wn_mul_le z.D w.D
 refine Num_Mul_vc x y V _ ((whole_times_spec hx.re hy.re (by omega) (by omega)).mono fun v V1 l1 ⟨r1, hv, h1⟩ => ⟨r1, hv, ?_⟩)
 replace hx := hx.le l1; replace hy := hy.le l1
 refine (whole_times_spec hx.im hy.im (by omega) (by omega)).mono fun v V2 l2 ⟨r2, hv, h2⟩ => ⟨r2, hv, ?_⟩
 replace hx := hx.le l2; replace hy := hy.le l2; replace h1 := h1.le l2
 refine (whole_minus_spec h2).mono fun v V3 l3 ⟨r3, hv, h3⟩ => ⟨r3, hv, ?_⟩
 replace hx := hx.le l3; replace hy := hy.le l3; replace h1 := h1.le l3
 refine (whole_plus_spec h1 h3 (by omega) (by omega)).mono fun v V4 l4 ⟨r4, hv, h4⟩ => ⟨r4, hv, ?_⟩
 replace hx := hx.le l4; replace hy := hy.le l4
 refine (whole_times_spec hx.re hy.im (by omega) (by omega)).mono fun v V5 l5 ⟨r5, hv, h5⟩ => ⟨r5, hv, ?_⟩
 replace hx := hx.le l5; replace hy := hy.le l5; replace h4 := h4.le l5
 refine (whole_times_spec hx.im hy.re (by omega) (by omega)).mono fun v V6 l6 ⟨r6, hv, h6⟩ => ⟨r6, hv, ?_⟩
 replace hx := hx.le l6; replace hy := hy.le l6; replace h4 := h4.le l6; replace h5 := h5.le l6
 refine (whole_plus_spec h5 h6 (by omega) (by omega)).mono fun v V7 l7 ⟨r7, hv, h7⟩ => ⟨r7, hv, ?_⟩
 replace hx := hx.le l7; replace hy := hy.le l7; replace h4 := h4.le l7
 refine (Num_den_spec hx).mono fun v V8 l8 ⟨r8, hv, h8⟩ => ⟨r8, hv, ?_⟩
 replace hy := hy.le l8; replace h4 := h4.le l8; replace h7 := h7.le l8
 refine (Num_den_spec hy).mono fun v V9 l9 ⟨r9, hv, h9⟩ => ⟨r9, hv, ?_⟩
 replace h4 := h4.le l9; replace h7 := h7.le l9; replace h8 := h8.le l9
 refine (nat_mul_spec h8 h9 (by omega) (by omega)).mono fun v V10 l10 ⟨r10, hv, h10⟩ => ⟨r10, hv, ?_⟩
 refine (num_over_spec (h4.le l10) (h7.le l10) h10 ?_ (by omega) (by omega) (by omega)).mono fun v V11 _ ⟨r, hv, hr⟩ => ⟨r, hv, r, rfl, hr⟩
 rw [← Int.sub_eq_add_neg]; exact z.canon.rep.mul w.canon.rep
theorem Num_Same_spec {V : View} {x y : NumV} {z w : Cq} (hx : NumAt V x z) (hy : NumAt V y w) (hz : z.sz ≤ 2 ^ 40) (hw : w.sz ≤ 2 ^ 40) :
 CallV Tryz.prog n_Num_Same #[x.val, y.val] V fun v _ => v = .bool (decide (z = w)) := by
 have zA := Cq.wA hz; have zB := Cq.wB hz; have zD := Cq.wD hz
 have wA := Cq.wA hw; have wB := Cq.wB hw; have wD := Cq.wD hw
 refine Num_Same_vc x y V _ ((whole_cmp_spec hx.re hy.re (by omega) (by omega)).mono fun v V1 l1 hv => ⟨_, hv, fun h1 => ?_, fun h1 => ⟨(fun h => by cases h), fun _ => ?_⟩⟩)
 · have h1 : z.A = w.A := cmpZ_zero.1 (by simpa using h1)
   refine (whole_cmp_spec (hx.im.le l1) (hy.im.le l1) (by omega) (by omega)).mono fun v V2 l2 hv => ⟨_, hv, fun h2 => ?_, fun h2 => ?_⟩
   · have h2 : z.B = w.B := cmpZ_zero.1 (by simpa using h2)
     refine (nat_cmp_spec (hx.under.le (View.le_trans l1 l2)) (hy.under.le (View.le_trans l1 l2)) ?_).mono fun v V3 l3 hv => ⟨_, hv, ?_⟩
     · split
       · rw [wn_zero]; omega
       · omega
     · have hD1 := z.D_pos
       have hD2 := w.D_pos
       congr 1
       by_cases e : z.D = w.D
       · have : z = w := Cq.eq_of h1 h2 e
         subst this; simp
       · have : z ≠ w := by rintro rfl; exact e rfl
         simp only [this, decide_false]
         have h3 : (if z.D = 1 then 0 else z.D) ≠ (if w.D = 1 then 0 else w.D) := by split <;> split <;> omega
         rw [if_neg h3]
         by_cases h : (if z.D = 1 then 0 else z.D) < (if w.D = 1 then 0 else w.D)
         · rw [if_pos h]; rfl
         · rw [if_neg h]; rfl
   · have h2 : ¬ z.B = w.B := fun e => by rw [cmpZ_zero.2 e] at h2; simp at h2
     have : z ≠ w := by rintro rfl; exact h2 rfl
     simp [this]
 · have h1 : ¬ z.A = w.A := fun e => by rw [cmpZ_zero.2 e] at h1; simp at h1
   have : z ≠ w := by rintro rfl; exact h1 rfl
   simp [this]
theorem Num_Real_spec {V : View} {x : NumV} {z : Cq} (hx : NumAt V x z) : CallV Tryz.prog n_Num_Real #[x.val] V fun v _ => v = .bool (decide (z.im = 0)) := by
 refine Num_Real_vc x V _ ?_
 have h1 := hx.im.2.len_zero
 have h2 := Cq.B_zero (z := z)
 congr 1
 by_cases e : z.im = 0
 · have : x.im.mag.len = 0 := h1.2 (by rw [h2.2 e]; rfl)
   simp [e, this]
 · have : x.im.mag.len ≠ 0 := fun h => e (h2.1 (by have := h1.1 h; omega))
   simp only [e, decide_false, beq_eq_false_iff_ne, ne_eq]; omega
theorem Num_Cmp_spec {V : View} {x y : NumV} {z w : Cq} (hx : NumAt V x z) (hy : NumAt V y w) (hz : z.sz ≤ 2 ^ 40) (hw : w.sz ≤ 2 ^ 40) :
 CallV Tryz.prog n_Num_Cmp #[x.val, y.val] V fun v _ => v = .int .i64 (z.cmp w) := by
 have zA := Cq.wA hz; have zB := Cq.wB hz; have zD := Cq.wD hz
 have wA := Cq.wA hw; have wB := Cq.wB hw; have wD := Cq.wD hw
 have zD' : wn (z.D : Int).natAbs ≤ 2 ^ 35 := zD
 have wD' : wn (w.D : Int).natAbs ≤ 2 ^ 35 := wD
 have s1 := wn_muli zA wD'; have s2 := wn_muli wA zD'; have s3 := wn_muli zB wD'; have s4 := wn_muli wB zD'
 have c1 : cmpZ (z.A * w.D) (w.A * z.D) = cmpR z.re w.re := by rw [cmpZ_R z.D_pos w.D_pos, ← z.canon.rep.re, ← w.canon.rep.re]
 have c2 : cmpZ (z.B * w.D) (w.B * z.D) = cmpR z.im w.im := by rw [cmpZ_R z.D_pos w.D_pos, ← z.canon.rep.im, ← w.canon.rep.im]
 refine Num_Cmp_vc x y V _ ((Num_den_spec hy).mono fun v V1 l1 ⟨r1, hv, h1⟩ => ⟨r1, hv, ?_⟩)
 replace hx := hx.le l1; replace hy := hy.le l1
 refine (whole_scaled_spec hx.re h1 (by omega) (by omega)).mono fun v V2 l2 ⟨r2, hv, h2⟩ => ⟨r2, hv, ?_⟩
 replace hx := hx.le l2; replace hy := hy.le l2
 refine (Num_den_spec hx).mono fun v V3 l3 ⟨r3, hv, h3⟩ => ⟨r3, hv, ?_⟩
 replace hx := hx.le l3; replace hy := hy.le l3; replace h2 := h2.le l3
 refine (whole_scaled_spec hy.re h3 (by omega) (by omega)).mono fun v V4 l4 ⟨r4, hv, h4⟩ => ⟨r4, hv, ?_⟩
 replace hx := hx.le l4; replace hy := hy.le l4; replace h2 := h2.le l4
 refine (whole_cmp_spec h2 h4 (by omega) (by omega)).mono fun v V5 l5 hv => ⟨_, hv, fun hn => ?_, fun hn => ?_⟩
 · rw [c1] at hn ⊢
   have hn : cmpR z.re w.re ≠ 0 := by simpa using hn
   unfold Cq.cmp; rw [if_pos hn]
 · rw [c1] at hn
   have hn : ¬ cmpR z.re w.re ≠ 0 := by simpa using hn
   replace hx := hx.le l5; replace hy := hy.le l5
   refine (Num_den_spec hy).mono fun v V6 l6 ⟨r6, hv, h6⟩ => ⟨r6, hv, ?_⟩
   replace hx := hx.le l6; replace hy := hy.le l6
   refine (whole_scaled_spec hx.im h6 (by omega) (by omega)).mono fun v V7 l7 ⟨r7, hv, h7⟩ => ⟨r7, hv, ?_⟩
   replace hx := hx.le l7; replace hy := hy.le l7
   refine (Num_den_spec hx).mono fun v V8 l8 ⟨r8, hv, h8⟩ => ⟨r8, hv, ?_⟩
   replace hx := hx.le l8; replace hy := hy.le l8; replace h7 := h7.le l8
   refine (whole_scaled_spec hy.im h8 (by omega) (by omega)).mono fun v V9 l9 ⟨r9, hv, h9⟩ => ⟨r9, hv, ?_⟩
   replace h7 := h7.le l9
   refine (whole_cmp_spec h7 h9 (by omega) (by omega)).mono fun v V10 l10 hv => ⟨_, hv, ?_⟩
   unfold Cq.cmp; rw [if_neg hn, c2]

def ratQ (r : RatV) : Cq := if r.den = 0 then ⟨(r.re : Rat), (r.im : Rat)⟩ else ⟨(r.re : Rat) / (r.den : Rat), (r.im : Rat) / (r.den : Rat)⟩
def ratI (r : RatV) : Prop := (-9223372036854775808 ≤ r.re ∧ r.re ≤ 9223372036854775807) ∧ (-9223372036854775808 ≤ r.im ∧ r.im ≤ 9223372036854775807) ∧ (-9223372036854775808 ≤ r.den ∧ r.den ≤ 9223372036854775807)
theorem law1_Of_spec {V : View} {r : RatV} (h : ratI r) : CallV Tryz.prog n_law1_Of #[r.val] V fun v V' => ∃ x : NumV, v = x.val ∧ NumAt V' x (ratQ r) := by
 obtain ⟨⟨a1, a2⟩, ⟨b1, b2⟩, ⟨c1, c2⟩⟩ := h
 refine law1_Of_vc r V _ ⟨fun h0 => ?_, fun h0 => ?_⟩
 · have h0 : r.den = 0 := by simpa using h0
   refine (num_New_spec a1 a2 b1 b2 (by omega) (by omega) (by omega)).mono fun v V1 _ ⟨x, hv, hx⟩ => ⟨x, 0, hv, x, rfl, ?_⟩
   have e : ratQ r = ⟨(r.re : Rat) / ((1 : Int) : Rat), (r.im : Rat) / ((1 : Int) : Rat)⟩ := by
    unfold ratQ; rw [if_pos h0]; simp only [Rat.div_def, Cq.mk.injEq]; constructor <;> grind
   rw [e]; exact hx
 · have h0 : r.den ≠ 0 := by simpa using h0
   refine (num_New_spec a1 a2 b1 b2 c1 c2 h0).mono fun v V1 _ ⟨x, hv, hx⟩ => ⟨x, 0, hv, x, rfl, ?_⟩
   unfold ratQ; rw [if_neg h0]; exact hx
theorem has_block {V : View} {b : Nat} {l : List Value} (h : V b = some l.toArray) : V.has (some (Addr.mk b 0 none)) l := by
 intro j v hj
 rw [load_block h]; simpa using hj
end Go.Proofs.YtefkpimcffofaaaGreat
namespace Go.Proofs.YtefkpimcffofaaaGreat
open Go Go.Vc Go.Proofs Go.ChangeShapes Go.RowKit
structure RatTy (P : Program) (t : TypeId) : Prop where
 fields : ∃ f0 f1 f2 : Field, P.underlying t = some (.struct #[f0, f1, f2]) ∧ (f0.offset = 0 ∧ f1.offset = 1 ∧ f2.offset = 2) ∧
  (P.underlying f0.type = some (.int .i64) ∧ P.underlying f1.type = some (.int .i64) ∧ P.underlying f2.type = some (.int .i64)) ∧ (P.cellsOf f0.type = 1 ∧ P.cellsOf f1.type = 1 ∧ P.cellsOf f2.type = 1)
 cells : P.cellsOf t = 3
section
variable {H : Type} {enc : TypeId × Value → H} {P : Program} {w : World} {base : Nat} {spare : Nat → Bool} {held : Bool}
theorem trod_rat {t : TypeId} {fuel : Nat} {cs : List Value} {x : DataW H × List MemPlace} (ht : RatTy P t) (h : DataW.trod enc P w base spare held fuel t cs = some x) : ∃ r : RatV, ratI r ∧ cs = r.val.cells.toList := by
 obtain ⟨f0, f1, f2, hR, ⟨o0, o1, o2⟩, ⟨i0, i1, i2⟩, c0, c1, c2⟩ := ht.fields
 obtain ⟨xs, n, _, _, hl, hxs, hf⟩ := DataW.trod_struct hR h
 rw [ht.cells] at hl
 match cs, hl with
 | [a, b, c], _ =>
   have g0 := hf 0 f0 rfl
   have g1 := hf 1 f1 rfl
   have g2 := hf 2 f2 rfl
   rw [o0, c0] at g0
   rw [o1, c1] at g1
   rw [o2, c2] at g2
   have hs : xs.length = 3 := hxs
   match xs, hs with
   | [y0, y1, y2], _ =>
     obtain ⟨n0, e0, _, w0⟩ := DataW.trod_int i0 g0
     obtain ⟨n1, e1, _, w1⟩ := DataW.trod_int i1 g1
     obtain ⟨n2, e2, _, w2⟩ := DataW.trod_int i2 g2
     simp at e0 e1 e2
     subst e0; subst e1; subst e2
     exact ⟨⟨n0, n1, n2⟩, ⟨bounds_i64 w0, bounds_i64 w1, bounds_i64 w2⟩, rfl⟩
end
theorem open_rat {H : Type} {enc : TypeId × Value → H} {P : Program} {w : World} {base : Nat} {spare : Nat → Bool} {held : Bool} {e : TypeId} {v : Value} {d : DataW H} {ps : List MemPlace} (he : RatTy P e)
 (h : DataW.Trod enc P w base spare held e v d ps) : ∃ r : RatV, ratI r ∧ v = r.val := by
 obtain ⟨fuel, h⟩ := h
 obtain ⟨r, hr, e1⟩ := trod_rat he h
 refine ⟨r, hr, ?_⟩
 cases v with
 | agg cs =>
   have e2 : cs.toList = [.int .i64 r.re, .int .i64 r.im, .int .i64 r.den] := e1
   have : cs = #[.int .i64 r.re, .int .i64 r.im, .int .i64 r.den] := by rw [← Array.toList_inj]; exact e2
   rw [this]; rfl
 | _ => exact absurd (congrArg List.length e1) (by simp [Value.cells, RatV.val])
theorem CallV.fits {P : Program} {f : FuncId} {args : Array Value} {r : Value} {V : View} (h : CallV P f args V fun v _ => v = r) {w : World} (hw : V.In w) :
 Calls P f args w fun e w' => e = .returned r ∧ Below w.heap.size w w' :=
 (h w hw).mono fun _ _ ⟨_, _, he, _, _, _, hb, hr⟩ => ⟨by rw [he, hr], hb⟩
theorem trodAll_below {H : Type} {enc : TypeId × Value → H} {P : Program} (hl : laidOutB P = true) {W W' : World} (hb : Below W.heap.size W W') :
 ∀ {ts : List TypeId} {vs : List Value} {ds : List (DataW H)} {ps : List MemPlace}, (∀ t ∈ ts, P.readableRec t = true ∧ t < P.types.size) → (∀ p ∈ ps, p.block < W.heap.size) →
 DataW.TrodAll enc P W 0 (fun _ => true) true ts vs ds ps → DataW.TrodAll enc P W' 0 (fun b => decide (b < W.heap.size)) true ts vs ds ps
 | [], [], [], _, _, _, h => h
 | t :: ts, v :: vs, d :: ds, ps, ht, hlt, ⟨p, q, h1, h2, e⟩ => by
   subst e
   exact ⟨p, q, Below.trod hl (ht t (by simp)).1 (ht t (by simp)).2 h1 hb (fun x hx => hlt x (by simp [hx])),
    trodAll_below hl hb (fun t' ht' => ht t' (by simp [ht'])) (fun x hx => hlt x (by simp [hx])) h2, rfl⟩
 | [], [], _ :: _, _, _, _, h => h.elim
 | [], _ :: _, _, _, _, _, h => h.elim
 | _ :: _, [], _, _, _, _, h => h.elim
 | _ :: _, _ :: _, [], _, _, _, h => h.elim
theorem post_of_read {H : Type} {enc : TypeId × Value → H} {P : Program} {f : Func} {s : ChangeSpec} {apart fresh handsOn : Bool} {W W' : World} {args : Array Value} {v : Value} {ds : List (DataW H)} {before : List MemPlace}
 (hl : laidOutB P = true) (ht : ∀ t ∈ f.params.toList, P.readableRec t = true ∧ t < P.types.size)
 (hW : DataW.Whole enc P f.params.toList s.vars apart W args.toList ds [] before) (hA : DataW.TrodAll enc P W 0 (fun _ => true) true f.params.toList args.toList ds before)
 (hres : ∀ (b : Nat) (sp : Nat → Bool) (hd : Bool), DataW.TrodAll enc P W' b sp hd f.resultTypes.toList (v.resultList f.resultTypes.size) (s.fn H (ds ++ [])).results [])
 (hargs : (s.fn H (ds ++ [])).args = ds) (hvars : ∀ sp : Nat → Bool, DataW.TrodVars enc P W' sp s.vars (s.fn H (ds ++ [])).vars []) (hb : Below W.heap.size W W') : s.post enc P f apart fresh handsOn false W args v W' := by
 refine ⟨ds, [], before, [], before, [], hW, hres _ _ _, ?_, hvars _, World.keptBut_mono (fun p hp => ⟨hp, .inr (.inl hp)⟩) (hb.frame (· ∈ before)), fun h => Bool.noConfusion h⟩
 rw [hargs]
 exact trodAll_below hl hb ht (fun p hp => hW.lt p hp) hA

inductive FK where
 | int (k : IntKind)
 | bool
def FK.ok : FK → Value → Prop
 | .int k, v => ∃ n, v = .int k n ∧ (Lit.int k n).wf = true
 | .bool, v => ∃ b, v = .bool b
def AllOk : List FK → List Value → Prop
 | [], [] => True
 | f :: fs, v :: vs => f.ok v ∧ AllOk fs vs
 | _, _ => False
theorem AllOk.append : ∀ {l l' : List FK} {v v' : List Value}, AllOk l v → AllOk l' v' → AllOk (l ++ l') (v ++ v')
 | [], _, [], _, _, h => h
 | _ :: _, _, _ :: _, _, ⟨h1, h2⟩, h => ⟨h1, AllOk.append h2 h⟩
 | [], _, _ :: _, _, h, _ => h.elim
 | _ :: _, _, [], _, h, _ => h.elim
def flatFs (P : Program) (F : TypeId → Option (List FK)) : List Field → Nat → Option (List FK)
 | [], _ => some []
 | f :: fs, off => match F f.type, flatFs P F fs (off + P.cellsOf f.type) with
   | some l, some r => if f.offset = off ∧ l.length = P.cellsOf f.type then some (l ++ r) else none
   | _, _ => none
def flatK (P : Program) : Nat → TypeId → Option (List FK)
 | 0, _ => none
 | d + 1, t => match P.underlying t with
   | some (.int k) => some [.int k]
   | some .bool => some [.bool]
   | some (.struct fs) => match flatFs P (flatK P d) fs.toList 0 with
     | some l => if l.length = P.cellsOf t then some l else none
     | none => none
   | some (.array n e) => match flatK P d e with
     | some l => if l.length = P.cellsOf e ∧ n * l.length = P.cellsOf t then some (List.replicate n l).flatten else none
     | none => none
   | _ => none
section
variable {H : Type} {enc : TypeId × Value → H} {P : Program} {w : World} {base : Nat} {spare : Nat → Bool} {held : Bool}
theorem flatFs_spec {F : TypeId → Option (List FK)} {n : Nat} (hF : ∀ t l cs x, F t = some l → DataW.trod enc P w base spare held n t cs = some x → AllOk l cs) {cs : List Value} {xs : List (DataW H × List MemPlace)} {all : List Field} (hxs : xs.length = all.length)
 (hf : ∀ (i : Nat) (f : Field), all[i]? = some f → DataW.trod enc P w base spare held n f.type ((cs.drop f.offset).take (P.cellsOf f.type)) = xs[i]?) :
 ∀ (fs pre : List Field) (off : Nat) (l : List FK), all = pre ++ fs → flatFs P F fs off = some l → cs.length = off + l.length → AllOk l (cs.drop off)
 | [], pre, off, l, he, h, hl => by
   simp only [flatFs, Option.some.injEq] at h
   subst h
   rw [List.drop_eq_nil_of_le (by simp at hl; omega)]; trivial
 | f :: fs, pre, off, l, he, h, hl => by
   simp only [flatFs] at h
   split at h
   · rename_i l1 r h1 h2
     split at h
     · rename_i hc
       obtain ⟨rfl, hlen⟩ := hc
       simp only [Option.some.injEq] at h
       subst h
       have hi : all[pre.length]? = some f := by rw [he]; simp
       have g := hf _ f hi
       have hx : pre.length < xs.length := by rw [hxs, he]; simp
       rw [List.getElem?_eq_getElem hx] at g
       have a1 := hF _ _ _ _ h1 g
       have a2 := flatFs_spec hF hxs hf fs (pre ++ [f]) (f.offset + P.cellsOf f.type) r (by rw [he]; simp) h2 (by rw [List.length_append] at hl; omega)
       have e : cs.drop f.offset = (cs.drop f.offset).take (P.cellsOf f.type) ++ cs.drop (f.offset + P.cellsOf f.type) := by
        rw [← List.drop_drop, List.take_append_drop]
       rw [e]; exact a1.append a2
     · simp at h
   · simp at h
theorem flatK_spec : ∀ (d : Nat) (fuel : Nat) (t : TypeId) (l : List FK) (cs : List Value) (x : DataW H × List MemPlace), flatK P d t = some l → DataW.trod enc P w base spare held fuel t cs = some x → AllOk l cs
 | 0, _, _, _, _, _, h, _ => by simp [flatK] at h
 | d + 1, fuel, t, l, cs, x, h, hx => by
   simp only [flatK] at h
   split at h
   · rename_i k hu
     obtain ⟨n, rfl, _, hw⟩ := DataW.trod_int hu hx
     simp only [Option.some.injEq] at h
     subst h
     exact ⟨⟨n, rfl, hw⟩, trivial⟩
   · rename_i hu
     obtain ⟨b, rfl, _⟩ := DataW.trod_bool hu hx
     simp only [Option.some.injEq] at h
     subst h
     exact ⟨⟨b, rfl⟩, trivial⟩
   · rename_i fs hu
     obtain ⟨xs, n, rfl, _, hl, hxs, hf⟩ := DataW.trod_struct hu hx
     split at h
     · rename_i l1 h1
       split at h
       · rename_i hc
         simp only [Option.some.injEq] at h
         subst h
         have := flatFs_spec (F := flatK P d) (fun t l cs x h1 h2 => flatK_spec d n t l cs x h1 h2) (all := fs.toList) (by simpa using hxs) (fun i f hi => hf i f (by simpa using hi)) fs.toList [] 0 l1 rfl h1 (by omega)
         simpa using this
       · simp at h
     · simp at h
   · rename_i n e hu
     obtain ⟨xs, m, rfl, _, hl, hxs, hf⟩ := DataW.trod_array hu hx
     split at h
     · rename_i l1 h1
       split at h
       · rename_i hc
         obtain ⟨c1, c2⟩ := hc
         simp only [Option.some.injEq] at h
         subst h
         have key : ∀ j, j ≤ n → AllOk (List.replicate j l1).flatten (cs.take (j * P.cellsOf e)) := by
          intro j
          induction j with
          | zero => intro _; simp; trivial
          | succ j ih =>
            intro hj
            have a1 := ih (by omega)
            have g := hf j (by omega)
            rw [List.getElem?_eq_getElem (by omega : j < xs.length)] at g
            have a2 := flatK_spec d m e l1 _ _ h1 g
            have e1 : cs.take ((j + 1) * P.cellsOf e) = cs.take (j * P.cellsOf e) ++ (cs.drop (j * P.cellsOf e)).take (P.cellsOf e) := by
             rw [Nat.add_mul, Nat.one_mul, List.take_add]
            have e2 : (List.replicate (j + 1) l1).flatten = (List.replicate j l1).flatten ++ l1 := by
             rw [List.replicate_succ']; simp
            rw [e1, e2]; exact a1.append a2
         have := key n (Nat.le_refl _)
         rw [List.take_of_length_le (by rw [hl, ← c2, c1]; exact Nat.le_refl _)] at this
         exact this
       · simp at h
     · simp at h
   · simp at h
theorem open_flat {t : TypeId} {v : Value} {dd : DataW H} {ps : List MemPlace} {l : List FK} (hk : flatK P 8 t = some l) (h : DataW.Trod enc P w base spare held t v dd ps) : AllOk l v.cells.toList := by
 obtain ⟨fuel, h⟩ := h
 exact flatK_spec 8 fuel t l _ _ hk h
end
theorem agg_of_cells {v : Value} {l : List Value} (h : v.cells.toList = l) (hl : l.length ≠ 1) : v = .agg l.toArray := by
 cases v with
 | agg cs => have : cs.toList = l := h
             rw [← this]
 | _ => exact absurd (by rw [← h]; rfl) hl

def worldView (w : World) : View := fun b => match w.heap[b]? with | some (.cells cs _ _) => some cs | _ => none
theorem worldView_in (w : World) : (worldView w).In w := by
 intro i cs hi
 unfold worldView at hi
 split at hi
 · rename_i cs' T fr hw
   simp at hi; subst hi
   exact ⟨T, fr, hw⟩
 · simp at hi
section
variable {H : Type} {enc : TypeId × Value → H} {P : Program} {w : World} {base : Nat} {spare : Nat → Bool} {held : Bool}
end
end Go.Proofs.YtefkpimcffofaaaGreat
namespace Go.Proofs.YtefkpimcffofaaaGreat
open Go Go.Vc Go.Proofs
theorem nat_one_at {V : View} {b : Nat} (hb : V b = some #[.int .u32 1]) : NatAt V ⟨some ⟨b, 0, none⟩, 1, 1⟩ 1 := by
 have : dig 1 = [1] := by rw [dig_pos (by omega)]; simp [dig_zero]
 unfold NatAt; rw [this]
 exact Words.of_block (by rw [hb]; rfl) rfl (Nat.le_refl _) (by intro d hd; simp at hd; omega)
theorem wn_one : wn 1 ≤ 2 ^ 43 := wn64 (by omega)

theorem A_zero {z : Cq} : z.A = 0 ↔ z.re = 0 := by
 have h := z.canon.rep
 have hD := natCast_ne h.pos
 rw [h.re]
 constructor
 · intro e; rw [e]; simp [Rat.div_def]
 · intro e
   have : (z.A : Rat) = 0 := by
    have : (z.A : Rat) = (z.A : Rat) / (z.D : Rat) * (z.D : Rat) := by rw [Rat.div_mul_cancel hD]
    rw [this, e]; simp
   exact_mod_cast this
theorem B_zero {z : Cq} : z.B = 0 ↔ z.im = 0 := by
 have h := z.canon.rep
 have hD := natCast_ne h.pos
 rw [h.im]
 constructor
 · intro e; rw [e]; simp [Rat.div_def]
 · intro e
   have : (z.B : Rat) = 0 := by
    have : (z.B : Rat) = (z.B : Rat) / (z.D : Rat) * (z.D : Rat) := by rw [Rat.div_mul_cancel hD]
    rw [this, e]; simp
   exact_mod_cast this
theorem Num_Clear_spec {V : View} {x : NumV} {z : Cq} (h : NumAt V x z) (hz : z.sz ≤ 2 ^ 40) : CallV Tryz.prog n_Num_Clear #[x.val] V fun v _ => v = .bool (decide (z ≠ Cq.zero)) := by
 have zA := Cq.wA hz; have zB := Cq.wB hz
 refine Num_Clear_vc x V _ ?_
 have a1 := h.re.2.len; have a2 := h.im.2.len
 have b1 := h.re.2.len_zero; have b2 := h.im.2.len_zero
 have c1 : x.re.mag.len ≤ 2 ^ 50 := by
  have : x.re.mag.len = wn z.A.natAbs := by rw [wn]; exact a1.symm ▸ rfl
  omega
 have c2 : x.im.mag.len ≤ 2 ^ 50 := by
  have : x.im.mag.len = wn z.B.natAbs := by rw [wn]; exact a2.symm ▸ rfl
  omega
 rw [i64w (by omega) (by omega)]
 have d1 : x.re.mag.len = 0 ↔ z.re = 0 := by rw [b1, ← A_zero]; omega
 have d2 : x.im.mag.len = 0 ↔ z.im = 0 := by rw [b2, ← B_zero]; omega
 have e : (z ≠ Cq.zero) ↔ ((x.re.mag.len : Int) + (x.im.mag.len : Int) > 0) := by
  constructor
  · intro hne
    rcases Nat.eq_zero_or_pos x.re.mag.len with p | p
    · rcases Nat.eq_zero_or_pos x.im.mag.len with q | q
      · exact absurd (Cq.ext' (d1.1 p) (d2.1 q)) hne
      · omega
    · omega
  · rintro hp rfl
    have p := d1.2 rfl; have q := d2.2 rfl
    omega
 simp only [e]
theorem Rep.div {z w : Cq} {A B a b : Int} {D d n : Nat} (hw : Rep w A B D) (ht : Rep (z * ⟨(A : Rat), -(B : Rat)⟩) a b d) (hn : (n : Int) = A * A + B * B) (h0 : n ≠ 0) : Rep (z.div w) (a * D) (b * D) (d * n) := by
 have hD := natCast_ne hw.pos
 have hd := natCast_ne ht.pos
 have hn0 := natCast_ne h0
 have hN : (n : Rat) = (A : Rat) * A + B * B := by exact_mod_cast hn
 have t1 := ht.re; have t2 := ht.im
 rw [Cq.mul_re] at t1; rw [Cq.mul_im] at t2
 dsimp only at t1 t2
 refine ⟨Nat.mul_ne_zero ht.pos h0, ?_, ?_⟩
 · show (z.re * w.re + z.im * w.im) / (w.re * w.re + w.im * w.im) = _
   rw [hw.re, hw.im, Rat.intCast_mul, Rat.natCast_mul, Rat.intCast_natCast]
   have e1 : z.re * ((A : Rat) / (D : Rat)) + z.im * ((B : Rat) / (D : Rat)) = (a : Rat) / (d : Rat) / (D : Rat) := by rw [← t1]; grind
   have e2 : (A : Rat) / (D : Rat) * ((A : Rat) / (D : Rat)) + (B : Rat) / (D : Rat) * ((B : Rat) / (D : Rat)) = (n : Rat) / ((D : Rat) * (D : Rat)) := by rw [hN]; grind
   rw [e1, e2]; grind
 · show (z.im * w.re - z.re * w.im) / (w.re * w.re + w.im * w.im) = _
   rw [hw.re, hw.im, Rat.intCast_mul, Rat.natCast_mul, Rat.intCast_natCast]
   have e1 : z.im * ((A : Rat) / (D : Rat)) - z.re * ((B : Rat) / (D : Rat)) = (b : Rat) / (d : Rat) / (D : Rat) := by rw [← t2]; grind
   have e2 : (A : Rat) / (D : Rat) * ((A : Rat) / (D : Rat)) + (B : Rat) / (D : Rat) * ((B : Rat) / (D : Rat)) = (n : Rat) / ((D : Rat) * (D : Rat)) := by rw [hN]; grind
   rw [e1, e2]; grind
theorem Rep.ofInts (A B : Int) : Rep ⟨(A : Rat), -(B : Rat)⟩ A (-B) 1 := by
 refine ⟨by omega, ?_, ?_⟩
 · rw [Rat.div_def]; simp; grind
 · rw [Rat.div_def]; simp; grind
theorem Num_Div_spec {V : View} {x y : NumV} {z w : Cq} (hx : NumAt V x z) (hy : NumAt V y w) (hz : z.sz ≤ 2 ^ 36) (hw : w.sz ≤ 2 ^ 36) :
 CallV Tryz.prog n_Num_Div #[x.val, y.val] V fun v V' => ∃ (r : NumV) (e : Int), v = .tuple #[r.val, .int .i64 e] ∧ (w = Cq.zero → e = 3 ∧ NumAt V' r Cq.zero) ∧ (w ≠ Cq.zero → e = 0 ∧ NumAt V' r (z.div w)) := by
 have hw40 : w.sz ≤ 2 ^ 40 := by omega
 have wA := Cq.wA hw40; have wB := Cq.wB hw40; have wD := Cq.wD hw40
 have sA := w.szA; have sB := w.szB; have sD := w.szD
 refine Num_Div_vc x y V _ ((Num_Clear_spec hy hw40).mono fun v V1 l1 hv => ⟨_, hv, fun hc => ?_, fun hc => ?_⟩)
 · have hc : w = Cq.zero := by simpa using hc
   exact ⟨_, _, rfl, fun _ => ⟨rfl, NumAt.zero V1⟩, fun h => absurd hc h⟩
 have hc : w ≠ Cq.zero := by simpa using hc
 replace hx := hx.le l1; replace hy := hy.le l1
 have m1 := wn_muli wA wA; have m2 := wn_muli wB wB
 refine (whole_times_spec hy.re hy.re (by omega) (by omega)).mono fun v V2 l2 ⟨r2, hv, h2⟩ => ⟨r2, hv, ?_⟩
 replace hx := hx.le l2; replace hy := hy.le l2
 refine (whole_times_spec hy.im hy.im (by omega) (by omega)).mono fun v V3 l3 ⟨r3, hv, h3⟩ => ⟨r3, hv, ?_⟩
 replace hx := hx.le l3; replace hy := hy.le l3; replace h2 := h2.le l3
 refine (whole_plus_spec h2 h3 (by omega) (by omega)).mono fun v V4 l4 ⟨r4, hv, h4⟩ => ⟨r4, hv, ?_⟩
 replace hx := hx.le l4; replace hy := hy.le l4
 refine (whole_minus_spec hy.im).mono fun v V5 l5 ⟨r5, hv, h5⟩ => ⟨r5, hv, fun b1 V6 l6 _ hb1 => ?_⟩
 replace hx := hx.le (View.le_trans l5 l6); replace hy := hy.le (View.le_trans l5 l6); replace h4 := h4.le (View.le_trans l5 l6); replace h5 := h5.le l6
 refine (num_over_spec hy.re h5 (nat_one_at hb1) (Rep.ofInts w.A w.B) (by omega) (by rw [Int.natAbs_neg]; omega) wn_one).mono fun v V7 l7 ⟨r6, hv, h6⟩ => ⟨r6, hv, ?_⟩
 replace hx := hx.le l7; replace hy := hy.le l7; replace h4 := h4.le l7
 have cs : (⟨(w.A : Rat), -(w.B : Rat)⟩ : Cq).sz ≤ 2 ^ 36 + 1 := (Rep.ofInts w.A w.B).sz (by omega) (by rw [Int.natAbs_neg]; omega) (by rw [bl_one]; omega)
 refine (Num_Mul_spec hx h6 (by omega) (by omega)).mono fun v V8 l8 ⟨r7, hv, h7⟩ => ⟨r7, hv, ?_⟩
 replace hy := hy.le l8; replace h4 := h4.le l8
 have ts := Cq.sz_mul z ⟨(w.A : Rat), -(w.B : Rat)⟩
 have ts40 : (z * ⟨(w.A : Rat), -(w.B : Rat)⟩).sz ≤ 2 ^ 40 := by omega
 have tA := Cq.wA ts40; have tB := Cq.wB ts40; have tD := Cq.wD ts40
 refine (Num_den_spec hy).mono fun v V9 l9 ⟨r8, hv, h8⟩ => ⟨r8, hv, ?_⟩
 replace hy := hy.le l9; replace h4 := h4.le l9; replace h7 := h7.le l9
 refine (whole_scaled_spec h7.re h8 (by omega) (by omega)).mono fun v V10 l10 ⟨r9, hv, h9⟩ => ⟨r9, hv, ?_⟩
 replace hy := hy.le l10; replace h4 := h4.le l10; replace h7 := h7.le l10
 refine (Num_den_spec hy).mono fun v V11 l11 ⟨r10, hv, h10⟩ => ⟨r10, hv, ?_⟩
 replace h4 := h4.le l11; replace h7 := h7.le l11; replace h9 := h9.le l11
 refine (whole_scaled_spec h7.im h10 (by omega) (by omega)).mono fun v V12 l12 ⟨r11, hv, h11⟩ => ⟨r11, hv, ?_⟩
 replace h4 := h4.le l12; replace h7 := h7.le l12; replace h9 := h9.le l12
 refine (Num_den_spec h7).mono fun v V13 l13 ⟨r12, hv, h12⟩ => ⟨r12, hv, ?_⟩
 replace h4 := h4.le l13; replace h9 := h9.le l13; replace h11 := h11.le l13
 have n1 := wn_addi m1 m2
 refine (nat_mul_spec h12 h4.2 (by omega) (by omega)).mono fun v V14 l14 ⟨r13, hv, h13⟩ => ⟨r13, hv, ?_⟩
 replace h9 := h9.le l14; replace h11 := h11.le l14
 have p1 := wn_mul_le (z * ⟨(w.A : Rat), -(w.B : Rat)⟩).D (w.A * w.A + w.B * w.B).natAbs
 have q1 := wn_muli tA (b := (w.D : Int)) (by rw [Int.natAbs_natCast]; exact wD)
 have q2 := wn_muli tB (b := (w.D : Int)) (by rw [Int.natAbs_natCast]; exact wD)
 have hsq : (0 : Int) ≤ w.A * w.A + w.B * w.B := Int.add_nonneg (by rw [← Int.natAbs_mul_self]; exact Int.natCast_nonneg _) (by rw [← Int.natAbs_mul_self]; exact Int.natCast_nonneg _)
 refine (num_over_spec h9 h11 h13 (Rep.div w.canon.rep (z * ⟨(w.A : Rat), -(w.B : Rat)⟩).canon.rep (Int.natAbs_of_nonneg hsq) ?_) (by omega) (by omega) (by omega)).mono fun v V15 _ ⟨r, hv, hr⟩ => ⟨r, hv, r, _, rfl, fun h => absurd h hc, fun _ => ⟨rfl, hr⟩⟩
 intro h0
 have e0 : w.A * w.A + w.B * w.B = 0 := Int.natAbs_eq_zero.1 h0
 have a0 : w.A = 0 := by
  by_cases h : w.A = 0
  · exact h
  · have : 0 < w.A * w.A := by
      have : 0 < w.A.natAbs * w.A.natAbs := Nat.mul_pos (by omega) (by omega)
      rw [← Int.natAbs_mul_self]; exact_mod_cast this
    have : (0 : Int) ≤ w.B * w.B := by rw [← Int.natAbs_mul_self]; exact Int.natCast_nonneg _
    omega
 have b0 : w.B = 0 := by
  rw [a0] at e0
  have : w.B * w.B = 0 := by omega
  rcases Int.mul_eq_zero.1 this with h | h <;> exact h
 exact hc (Cq.ext' (A_zero.1 a0) (B_zero.1 b0))
theorem div_sz {z w : Cq} {S : Nat} (hz : z.sz ≤ S) (hw : w.sz ≤ S) : (z.div w).sz ≤ 4 * S + 8 := by
 have sA := w.szA; have sB := w.szB; have sD := w.szD
 have cs : (⟨(w.A : Rat), -(w.B : Rat)⟩ : Cq).sz ≤ S + 1 := (Rep.ofInts w.A w.B).sz (by omega) (by rw [Int.natAbs_neg]; omega) (by rw [bl_one]; omega)
 have ts := Cq.sz_mul z ⟨(w.A : Rat), -(w.B : Rat)⟩
 have tA := (z * ⟨(w.A : Rat), -(w.B : Rat)⟩ : Cq).szA; have tB := (z * ⟨(w.A : Rat), -(w.B : Rat)⟩ : Cq).szB; have tD := (z * ⟨(w.A : Rat), -(w.B : Rat)⟩ : Cq).szD
 have hsq : (0 : Int) ≤ w.A * w.A + w.B * w.B := Int.add_nonneg (by rw [← Int.natAbs_mul_self]; exact Int.natCast_nonneg _) (by rw [← Int.natAbs_mul_self]; exact Int.natCast_nonneg _)
 by_cases h0 : (w.A * w.A + w.B * w.B).natAbs = 0
 · have : z.div w = Cq.zero := by
     have hr := w.canon.rep
     have e0 : w.A * w.A + w.B * w.B = 0 := Int.natAbs_eq_zero.1 h0
     have hn : w.norm = 0 := by
      unfold Cq.norm
      rw [hr.re, hr.im]
      have : (w.A : Rat) * w.A + w.B * w.B = 0 := by exact_mod_cast e0
      have hD := natCast_ne hr.pos
      grind
     refine Cq.ext' ?_ ?_
     · show _ / w.norm = 0; rw [hn]; simp [Rat.div_def]
     · show _ / w.norm = 0; rw [hn]; simp [Rat.div_def]
   rw [this]; have := Cq.sz_zero; omega
 · refine (Rep.div w.canon.rep (z * ⟨(w.A : Rat), -(w.B : Rat)⟩).canon.rep (Int.natAbs_of_nonneg hsq) h0).sz ?_ ?_ ?_
   · have := bl_muli (z * ⟨(w.A : Rat), -(w.B : Rat)⟩).A (w.D : Int); rw [Int.natAbs_natCast] at this; omega
   · have := bl_muli (z * ⟨(w.A : Rat), -(w.B : Rat)⟩).B (w.D : Int); rw [Int.natAbs_natCast] at this; omega
   · have h1 := bl_mul (z * ⟨(w.A : Rat), -(w.B : Rat)⟩).D (w.A * w.A + w.B * w.B).natAbs
     have h2 := bl_addi (a := w.A * w.A) (b := w.B * w.B) (k := 2 * S) (Nat.le_trans (bl_muli _ _) (by omega)) (Nat.le_trans (bl_muli _ _) (by omega))
     omega

def okN (z : Cq) : Prop := z.sz ≤ 2 ^ 36
def atN (V : View) (n : NumV) (z : Cq) : Prop := NumAt V n z
theorem atN.le {V V' : View} (h : V.le V') {n : NumV} {z : Cq} (k : atN V n z) : atN V' n z := NumAt.le h k
theorem elN {V : View} {x : List Value} {z : Cq} (h : numC V x z) : ∃ n : NumV, x = n.val.cells.toList ∧ atN V n z := h
theorem cellN {V : View} {n : NumV} {z : Cq} (h : atN V n z) : numC V n.val.cells.toList z := ⟨n, rfl, h⟩
theorem lenN (n : NumV) : n.val.cells.toList.length = 5 := rfl
theorem oneN {V : View} {x : List Value} {z : Cq} (h : numC V x z) : ∀ v ∈ x, Value.oneCell' v = true := by
 obtain ⟨n, e, _⟩ := h
 subst e
 intro v hv
 rw [num_cells] at hv
 simp only [List.mem_cons, List.not_mem_nil, or_false] at hv
 rcases hv with rfl | rfl | rfl | rfl | rfl <;> rfl
theorem zeroN (V : View) : numC V [Value.bool false, Value.slice none 0 0, Value.bool false, Value.slice none 0 0, Value.slice none 0 0] Cq.zero := ⟨_, rfl, NumAt.zero V⟩
theorem clearN {V : View} {n : NumV} {z : Cq} (h : atN V n z) (hz : okN z) : CallV Tryz.prog n_Num_Clear #[n.val] V fun v _ => v = .bool (numO.clr z) := Num_Clear_spec h (by unfold okN at hz; omega)
theorem divN {V : View} {n k : NumV} {z w : Cq} (h : atN V n z) (h' : atN V k w) (hz : okN z) (hw : okN w) (hc : numO.clr w = true) :
 CallV Tryz.prog n_Num_Div #[n.val, k.val] V fun v V' => ∃ r : NumV, v = .tuple #[r.val, .int .i64 0] ∧ atN V' r (numO.div z w) := by
 refine (Num_Div_spec h h' hz hw).mono fun v V' _ ⟨r, e, hv, _, h2⟩ => ?_
 obtain ⟨g1, g2⟩ := h2 (numO_clr.1 hc)
 subst g1
 exact ⟨r, hv, g2⟩
theorem mulf_sz {x y u : Cq} (hx : okN x) (hy : okN y) (hu : okN u) : (Cq.div x y).sz ≤ 4 * 2 ^ 36 + 8 ∧ (Cq.div x y * u).sz ≤ 5 * 2 ^ 36 + 9 := by
 have h1 := div_sz hx hy
 have h2 := Cq.sz_mul (Cq.div x y) u
 unfold okN at hu
 omega
theorem mulfN {V : View} {n k : NumV} {x y u : Cq} (h : atN V n (numO.div x y)) (h' : atN V k u) (hx : okN x) (hy : okN y) (hu : okN u) :
 CallV Tryz.prog n_Num_Mul #[n.val, k.val] V fun v V' => ∃ r : NumV, v = r.val ∧ atN V' r (numO.mul (numO.div x y) u) := by
 have hs := mulf_sz hx hy hu
 exact Num_Mul_spec (z := Cq.div x y) (w := u) h h' (by omega) (by unfold okN at hu; omega)
theorem subfN {V : View} {n k : NumV} {z x y u : Cq} (h : atN V n z) (h' : atN V k (numO.mul (numO.div x y) u)) (hz : okN z) (hx : okN x) (hy : okN y) (hu : okN u) :
 CallV Tryz.prog n_Num_Sub #[n.val, k.val] V fun v V' => ∃ r : NumV, v = r.val ∧ atN V' r (numO.sub z (numO.mul (numO.div x y) u)) := by
 have hs := mulf_sz hx hy hu
 exact Num_Sub_spec (z := z) (w := Cq.div x y * u) h h' (by unfold okN at hz; omega) (by omega)
theorem mulN {V : View} {n k : NumV} {x y : Cq} (h : atN V n x) (h' : atN V k y) (hx : okN x) (hy : okN y) :
 CallV Tryz.prog n_Num_Mul #[n.val, k.val] V fun v V' => ∃ r : NumV, v = r.val ∧ atN V' r (numO.mul x y) :=
 Num_Mul_spec (z := x) (w := y) h h' (by unfold okN at hx; omega) (by unfold okN at hy; omega)
theorem subN {V : View} {n k : NumV} {x y z : Cq} (h : atN V n x) (h' : atN V k (numO.mul y z)) (hx : okN x) (hy : okN y) (hz : okN z) :
 CallV Tryz.prog n_Num_Sub #[n.val, k.val] V fun v V' => ∃ r : NumV, v = r.val ∧ atN V' r (numO.sub x (numO.mul y z)) := by
 have := Cq.sz_mul y z
 unfold okN at hx hy hz
 exact Num_Sub_spec (z := x) (w := y * z) h h' (by omega) (by omega)

theorem columns1_num_Num {V : View} {s : Sl} {p : Option Addr} {k : Nat} (hp : V.load p = some (.int .i64 (k : Int))) :
 CallV Tryz.prog n_num_columns_num_Num__1 #[s.v, .pointer p] V fun v _ => v = .bool (decide (s.len ≠ k)) := by
 refine num_columns_num_Num__1_vc s p V _ ⟨_, hp, ?_⟩
 congr 1
 by_cases e : s.len = k
 · subst e; simp
 · simp [e]; omega
theorem IndexFunc1_num_Num {V : View} {p : Sl} {rows : List (List Cq)} (h : RowsV 5 numC V p rows) (hn : rows.length ≤ 2 ^ 40) (q : Fn1) {k : Nat} (hp : V.load q.p0 = some (.int .i64 (k : Int))) :
 CallV Tryz.prog n_slices_IndexFunc_____num_Num___num_Num_ #[p.v, q.val n_num_columns_num_Num__1] V fun v _ => ∃ r : Int, v = .int .i64 r ∧ (0 ≤ r ↔ ∃ row, row ∈ rows ∧ row.length ≠ k) := by
 have hl : p.len = rows.length := h.len
 refine slices_IndexFunc_____num_Num___num_Num___num_columns_num_Num__1_vc p q V _ (fun _ x _ => ∃ t : Nat, x.t8 = t ∧ t ≤ rows.length ∧ ∀ row, row ∈ rows.take t → row.length = k) (fun _ x _ => rows.length - x.t8.toNat) ⟨⟨0, rfl, by omega, by simp⟩, ?_⟩
 rintro ⟨t⟩ V1 l1 ⟨t', ht, htn, hi⟩
 dsimp only at ht ⊢
 subst ht
 refine ⟨fun hlt => ?_, fun hge => ?_⟩
 · simp only [decide_eq_true_eq] at hlt
   have hk : t' < rows.length := by omega
   obtain ⟨g1, s, g2, g3⟩ := (h.le numC.le l1).row (t := (t' : Int)) (by omega) (row := rows[t']) (by simp)
   refine ⟨g1, s, g2, (columns1_num_Num (View.load_le l1 hp)).mono fun v V2 l2 hv => ⟨_, hv, fun hr => ⟨_, rfl, ?_⟩, fun hr => ?_⟩⟩
   · have hne := of_decide_eq_true hr
     rw [g3.len] at hne
     exact ⟨fun _ => ⟨rows[t'], List.getElem_mem hk, hne⟩, fun _ => by omega⟩
   · have he : s.len = k := by simpa using hr
     rw [g3.len] at he
     rw [i64w (by omega) (by omega)]
     refine ⟨⟨t' + 1, by omega, by omega, fun row hrow => ?_⟩, by omega⟩
     rw [List.take_add_one, List.getElem?_eq_getElem hk] at hrow
     simp only [Option.toList_some, List.mem_append, List.mem_singleton] at hrow
     rcases hrow with hrow | hrow
     · exact hi row hrow
     · subst hrow; exact he
 · simp only [decide_eq_false_iff_not] at hge
   have e : t' = rows.length := by omega
   subst e
   rw [List.take_length] at hi
   exact ⟨-1, rfl, fun h => absurd h (by omega), fun ⟨row, h1, h2⟩ => absurd (hi row h1) h2⟩
theorem ContainsFunc1_num_Num {V : View} {p : Sl} {rows : List (List Cq)} (h : RowsV 5 numC V p rows) (hn : rows.length ≤ 2 ^ 40) (q : Fn1) {k : Nat} (hp : V.load q.p0 = some (.int .i64 (k : Int))) :
 CallV Tryz.prog n_slices_ContainsFunc_____num_Num___num_Num_ #[p.v, q.val n_num_columns_num_Num__1] V fun v _ => v = .bool (rows.any fun row => decide (row.length ≠ k)) := by
 refine slices_ContainsFunc_____num_Num___num_Num___num_columns_num_Num__1_vc p q V _ ((IndexFunc1_num_Num h hn q hp).mono fun v V1 l1 ⟨r, hv, hr⟩ => ⟨r, hv, ?_⟩)
 congr 1
 rw [Bool.eq_iff_iff]
 simp only [ge_iff_le, decide_eq_true_eq, List.any_eq_true]
 exact hr
def colsOfN (rows : List (List Cq)) : Nat := (rows.headD []).length
def validN (rows : List (List Cq)) : Bool := rows.isEmpty || (decide (rows.length ≤ 32) && decide (colsOfN rows ≤ 32) && !(rows.any fun row => decide (row.length ≠ colsOfN rows)))
theorem columns_num_Num_spec {V : View} {p : Sl} {rows : List (List Cq)} (h : RowsV 5 numC V p rows) (hn : rows.length ≤ 2 ^ 40) :
 CallV Tryz.prog n_num_columns_num_Num_ #[p.v] V fun v _ => v = .tuple #[.int .i64 (colsOfN rows : Int), .bool (validN rows)] := by
 have hl : p.len = rows.length := h.len
 refine num_columns_num_Num__vc p V _ ⟨fun h0 => ?_, fun h0 => ?_⟩
 · have e : rows = [] := List.length_eq_zero_iff.1 (by simp at h0; omega)
   subst e; rfl
 · have hne : 0 < rows.length := by simp at h0; omega
   obtain ⟨row, rest, e⟩ : ∃ row rest, rows = row :: rest := by
    cases rows with
    | nil => simp at hne
    | cons a l => exact ⟨a, l, rfl⟩
   obtain ⟨g1, s, g2, g3⟩ := h.row (t := (0 : Int)) (by omega) (row := row) (by subst e; rfl)
   refine ⟨g1, s, g2, fun b1 V1 l1 hb1 => ?_⟩
   have hld : V1.load (some (Addr.mk b1 0 none)) = some (.int .i64 (s.len : Int)) := by
    have := load_block (j := 0) hb1
    simpa [Addr.add] using this
   have hs : s.len = colsOfN rows := by subst e; exact g3.len
   rw [hs] at hld
   have hE : rows.isEmpty = false := by subst e; rfl
   refine ⟨_, hld, fun h1 => ⟨_, hld, fun h2 => ?_, fun h2 => ?_⟩, fun h1 => ?_⟩
   · simp only [decide_eq_true_eq] at h1 h2
     refine (ContainsFunc1_num_Num (h.le numC.le l1) hn ⟨some (Addr.mk b1 0 none)⟩ hld).mono fun v V2 l2 hv => ⟨_, hv, ?_⟩
     have e1 : decide (rows.length ≤ 32) = true := by simp; omega
     have e2 : decide (colsOfN rows ≤ 32) = true := by simp; omega
     simp only [validN, hE, e1, e2, Bool.false_or, Bool.true_and]
   · simp only [decide_eq_false_iff_not] at h2
     have e2 : decide (colsOfN rows ≤ 32) = false := by simp; omega
     simp only [validN, hE, e2, Bool.false_or, Bool.and_false, Bool.false_and]
   · simp only [decide_eq_false_iff_not] at h1
     have e1 : decide (rows.length ≤ 32) = false := by simp; omega
     simp only [validN, hE, e1, Bool.false_or, Bool.false_and]
theorem isSquare_num_Num_spec {V : View} {p : Sl} {rows : List (List Cq)} (h : RowsV 5 numC V p rows) (hn : rows.length ≤ 2 ^ 40) :
 CallV Tryz.prog n_num_isSquare_num_Num_ #[p.v] V fun v _ => v = .bool (validN rows && decide (colsOfN rows = rows.length)) := by
 have hl : p.len = rows.length := h.len
 refine num_isSquare_num_Num__vc p V _ ((columns_num_Num_spec h hn).mono fun v V1 l1 hv => ⟨_, _, hv, fun h1 => ?_, fun h1 => ?_⟩)
 · rw [h1, Bool.true_and, hl]
   congr 1
   by_cases e : colsOfN rows = rows.length
   · simp [e]
   · simp [e]; omega
 · rw [h1, Bool.false_and]
theorem one_N {V : View} {o : List Value} {row : List Cq} (h : Cells 5 numC V o row) : ∀ v ∈ o, Value.oneCell' v = true := by
 induction row generalizing o with
 | nil => rw [show o = [] from h]; simp
 | cons z zs ih =>
   obtain ⟨x, o', e, hx, hp, ht⟩ := h
   subst e
   intro v hv
   rw [List.mem_append] at hv
   rcases hv with hv | hv
   · exact oneN hp v hv
   · exact ih ht v hv
theorem Clone_num_Num_spec {m V : View} {s : Sl} {row : List Cq} {o : List Value} (hC : Cells 5 numC V o row) (ho : has2 m V s.a o) (hl : s.len = row.length) (ha : s.a = none → row = []) (hb : row.length ≤ 2 ^ 30) :
 CallR Tryz.prog n_slices_Clone___num_Num_num_Num_ #[s.v] m V fun v m' V' => ∃ (r : Sl) (b : Nat), v = r.v ∧ RowR 5 numC m' V' r b row ∧ (row ≠ [] → m b = none) ∧ (∀ i, i ≠ b ∨ row = [] → m' i = m i) := by
 refine slices_Clone___num_Num_num_Num__vc m s V _ ⟨trivial, fun h => ?_, fun h b1 V1 l1 hf hb1 => ?_⟩
 · have e := ha (by simpa using h)
   exact ⟨⟨none, 0, 0⟩, 0, rfl, ⟨by rw [e]; rfl, Nat.le_refl _, fun _ => rfl, fun h => absurd e h⟩, fun h => absurd e h, fun _ _ => rfl⟩
 · have hol := hC.length
   refine ⟨[], o, ⟨Nat.le_refl _, fun h => by simp at h⟩, .inl (by intro j v hj; simp at hj), by simp, has2_le l1 ho, by rw [hol, hl], one_N hC, by unfold maxLen; omega, by omega, fun h1 h2 => by omega, fun a1 c1 m1 ha1 => ?_⟩
   have hC1 : Cells 5 numC V1 o row := hC.imp (numC.le l1)
   obtain ⟨b, hr, hb2, hm, hm2⟩ := RowR.clone hC1 rfl hl ha1
   exact ⟨_, b, rfl, hr, hb2, fun i hi => by
    rcases hi with hi | hi
    · exact hm i hi
    · rw [hm2 hi]⟩
def widerN (A : Nat → Nat → Cq) (w : Nat) (C : Nat → Nat → Cq) : Nat → Nat → Cq := fun i k => if k < w then A i k else C (k - w) i
theorem copied_num_Num_spec {V : View} {p q : Sl} {n w u : Nat} {A C : Nat → Nat → Cq} (h : RowsV 5 numC V p (matL n w A)) (hq : RowsV 5 numC V q (matL u n C)) (hn : n ≤ 2 ^ 20) (hw : w ≤ 2 ^ 20) (hu : u ≤ 2 ^ 20) :
 CallR Tryz.prog n_num_copied_num_Num_ #[p.v, q.v] (fun _ => none : View) V fun v m' V' => ∃ r : Sl, v = r.v ∧ MatR 5 numC m' V' r n (w + u) (widerN A w C) := by
 have hl : p.len = n := by have := h.len; rw [matL_length] at this; exact this
 have hql : q.len = u := by have := hq.len; rw [matL_length] at this; exact this
 refine num_copied_num_Num__vc (fun _ => none) p q V _ (fun _ x V' => ∃ t : Nat, x.t15 = t ∧ t ≤ n ∧ x.o12.length = n ∧ RowsR 5 numC x.o0 V' x.o12 t (fun i => rowL (w + u) (widerN A w C i))) (fun _ x _ => n - x.t15.toNat)
  (fun c x V' => ∃ t k : Nat, c.t15 = t ∧ t < n ∧ x.t27 = k ∧ k ≤ u ∧ x.o12.length = n ∧ RowsR 5 numC x.o0 V' x.o12 (t + 1) (fun i => if i = t then rowL (w + k) (widerN A w C i) else rowL (w + u) (widerN A w C i))) (fun _ x _ => u - x.t27.toNat) ?_
 rw [hl]
 refine ⟨⟨by omega, by omega, by omega, by omega⟩, ⟨0, rfl, by omega, by simp, RowsR.empty _ _ _ _⟩, ?_⟩
 rintro ⟨t15, o0, o12⟩ V1 l1 ⟨t, ht, htn, hlen, hR⟩
 dsimp only at ht hlen hR ⊢
 subst ht
 refine ⟨fun hlt => ?_, fun hge => ?_⟩
 · simp only [decide_eq_true_eq] at hlt
   have hk : t < n := by omega
   obtain ⟨g1, s, g2, g3⟩ := (h.le numC.le l1).row (t := (t : Int)) (by omega) (row := rowL w (A t)) (by rw [Int.toNat_natCast]; exact matL_get hk A)
   rw [hl] at g1
   obtain ⟨o, ho, hC⟩ := g3.cells
   refine ⟨g1, s, .inr g2, ?_⟩
   refine (Clone_num_Num_spec hC (.inr ho) g3.len (fun e => ?_) (by rw [rowL_length]; omega)).mono fun v m1 V2 l2 _ ⟨r, b, hv, hr, hb, hm⟩ => ⟨r, hv, ⟨by omega, by omega⟩, by rw [hlen, Int.toNat_natCast]; omega, ?_, ?_⟩
   · by_cases e2 : rowL w (A t) = []
     · exact e2
     · have := g3.some e2; rw [e] at this; simp at this
   · refine ⟨t, 0, rfl, hk, rfl, by omega, by simp [hlen], ?_⟩
     have := (hR.le numC.le l2).push (by omega) hr hb hm
     have e1 : (0 + Int.toNat (t : Int) * 1) = t := by omega
     rw [e1]
     refine this.congr fun i hi => ?_
     by_cases e : i = t
     · subst e
       simp only [if_true, Nat.add_zero]
       exact rowL_congr fun k hk => by simp [widerN, hk]
     · simp [e]
   · rintro ⟨t27, o0', o12'⟩ V3 l3 ⟨t', k, ht', htn', hk27, hku, hlen', hR'⟩
     dsimp only at ht' hk27 hlen' hR' ⊢
     have : t' = t := by omega
     subst this
     subst hk27
     rw [hql]
     refine ⟨fun hlt2 => ?_, fun hge2 => ?_⟩
     · simp only [decide_eq_true_eq] at hlt2
       have hku2 : k < u := by omega
       have lq := View.le_trans l1 (View.le_trans l2 l3)
       obtain ⟨q1, s2, q2, q3⟩ := (hq.le numC.le lq).row (t := (k : Int)) (by omega) (row := rowL n (C k)) (by rw [Int.toNat_natCast]; exact matL_get hku2 C)
       rw [hql] at q1
       obtain ⟨s3, e3, r1, r2, r3, ⟨o3, r4, r5, r6⟩, r7⟩ := hR'.row (i := t') (by omega)
       obtain ⟨c1, x, hx, hxl, hh, hs⟩ := ListAt.get q3 (t := (t' : Int)) (by omega) (z := C k t') (by rw [Int.toNat_natCast]; exact rowL_get hk _)
       obtain ⟨y, ey, hy⟩ := elN hx
       subst ey
       simp only [if_true] at r1 r6
       rw [rowL_length] at r1
       refine ⟨q1, s2, .inr q2, ⟨by omega, by omega⟩, s3, by rw [Int.toNat_natCast, Nat.mul_one, Nat.zero_add]; exact e3, c1, y, .inr hh, hs, fun b1 V4 l4 hf4 hb4 => ?_⟩
       have hnew : V4.has (some (Addr.mk b1 0 none)) y.val.cells.toList := by
        refine rhas_block (cs := y.val.cells.toList) (j := 0) hb4 (fun i v hv => by rw [Nat.zero_add]; exact hv) rfl
       refine ⟨o3, _, ⟨r2, r3⟩, has2_le l4 r4, r5, .inr hnew, by rw [hxl], oneN (numC.le l4 _ _ hx), by unfold maxLen; omega, by omega, fun _ h2 => r7 1 (by omega) h2, fun a1 c1 m2 ha => ⟨⟨by omega, by omega⟩, by rw [hlen', Int.toNat_natCast]; omega, ?_⟩⟩
       have := (hR'.le numC.le l4).app (i := t') (by omega) e3 hxl (numC.le l4 _ _ hx) (o' := o3) (by simp only [if_true]; exact r6.imp (numC.le l4)) ha
       rw [i64w (by omega) (by omega)]
       refine ⟨⟨t', k + 1, rfl, htn', by omega, by omega, by simp [hlen'], ?_⟩, by omega⟩
       have e1 : (0 + Int.toNat (t' : Int) * 1) = t' := by omega
       rw [e1]
       refine this.congr fun i hi => ?_
       by_cases e : i = t'
       · subst e
         simp only [if_true]
         rw [show C k i = widerN A w C i (w + k) by unfold widerN; rw [if_neg (by omega), Nat.add_sub_cancel_left], rowL_push]; rfl
       · simp [e]
     · simp only [decide_eq_false_iff_not] at hge2
       have e : k = u := by omega
       subst e
       rw [i64w (by omega) (by omega)]
       refine ⟨⟨t' + 1, by omega, by omega, hlen', hR'.congr fun i hi => ?_⟩, by omega⟩
       by_cases e : i = t' <;> simp [e]
 · simp only [decide_eq_false_iff_not] at hge
   intro b3 hb3 hb4
   have e : t = n := by omega
   subst e
   rw [Int.toNat_natCast]
   exact ⟨_, rfl, hR.mat hlen hb3⟩
theorem eliminate_num_Num_spec {m V : View} {p : Sl} {n w : Nat} {A : Nat → Nat → Cq} (Q : Nat → Cq → Prop) (h : MatR 5 numC m V p n w A) (hn : n ≤ w) (hw : w ≤ 2 ^ 20)
 (q1 : ∀ c x, c ≤ n → Q c x → okN x) (q2 : ∀ c x y z u, Q c x → Q c y → Q c z → Q c u → Q (c + 1) (numO.sub x (numO.mul (numO.div y z) u))) (q3 : ∀ c x, Q c x → Q (c + 1) x) (hA : ∀ i j, i < n → j < w → Q 0 (A i j)) :
 CallR Tryz.prog n_num_eliminate_num_Num_ #[p.v] m V fun v m' V' => v = .tuple #[.int .i64 ((elim numO n w A).2.1 : Nat), .int .i64 (match (elim numO n w A).2.2 with | none => -1 | some c => (c : Int))] ∧ MatR 5 numC m' V' p n w (elim numO n w A).1 := by
 have hl := h.len
 refine num_eliminate_num_Num__vc m p V _
  (fun _ x V' => ∃ (c s : Nat) (B : Nat → Nat → Cq), x.t13 = c ∧ x.t4 = s ∧ c ≤ n ∧ s ≤ c ∧ MatR 5 numC x.o0 V' p n w B ∧ elimF numO n w (n - c) c B s = elim numO n w A ∧ ∀ i j, i < n → j < w → Q c (B i j))
  (fun _ x _ => n - x.t13.toNat)
  (fun c x V' => ∃ (k s : Nat) (B : Nat → Nat → Cq), c.t13 = k ∧ c.t4 = s ∧ k < n ∧ s ≤ k ∧ MatR 5 numC c.o0 V' p n w B ∧ elimF numO n w (n - k) k B s = elim numO n w A ∧ (∀ i j, i < n → j < w → Q k (B i j)) ∧ x.t6 = (pivF numO B k n : Nat))
  (fun c x V' => ∃ (k s : Nat) (B : Nat → Nat → Cq) (t : Nat), c.t13 = k ∧ c.t4 = s ∧ k < n ∧ s ≤ k ∧ MatR 5 numC c.o0 V' p n w B ∧ elimF numO n w (n - k) k B s = elim numO n w A ∧ (∀ i j, i < n → j < w → Q k (B i j)) ∧ x.t6 = t ∧ k ≤ t ∧ t ≤ n ∧ ∀ q, k ≤ q → q < t → numO.clr (B q k) = false)
  (fun _ x _ => n - x.t6.toNat)
  (fun c x V' => ∃ (k s : Nat) (B : Nat → Nat → Cq), c.t13 = k ∧ x.t4 = s ∧ k < n ∧ s ≤ k + 1 ∧ MatR 5 numC x.o0 V' p n w B ∧ elimF numO n w (n - (k + 1)) (k + 1) (colF numO w B k n) s = elim numO n w A ∧ (∀ i j, i < n → j < w → Q k (B i j)) ∧ numO.clr (B k k) = true)
  (fun c x V' => ∃ (k s : Nat) (B : Nat → Nat → Cq) (R : Nat), c.t13 = k ∧ c.t4 = s ∧ k < n ∧ s ≤ k + 1 ∧ x.t7 = R ∧ k < R ∧ R ≤ n ∧ MatR 5 numC x.o0 V' p n w (colF numO w B k R) ∧ elimF numO n w (n - (k + 1)) (k + 1) (colF numO w B k n) s = elim numO n w A ∧ (∀ i j, i < n → j < w → Q k (B i j)) ∧ numO.clr (B k k) = true)
  (fun _ x _ => n - x.t7.toNat)
  (fun c x V' => ∃ (k s : Nat) (B : Nat → Nat → Cq) (R K : Nat), c.t13 = k ∧ c.t4 = s ∧ k < n ∧ s ≤ k + 1 ∧ c.t7 = R ∧ k < R ∧ R < n ∧ x.t10 = K ∧ k < K ∧ K ≤ w ∧ atN V' ⟨⟨c.o8_0, c.o8_1⟩, ⟨c.o8_2, c.o8_3⟩, c.o8_4⟩ (numO.div (B R k) (B k k)) ∧
    MatR 5 numC x.o0 V' p n w (rowF numO (colF numO w B k R) k R (numO.div (B R k) (B k k)) K) ∧ elimF numO n w (n - (k + 1)) (k + 1) (colF numO w B k n) s = elim numO n w A ∧ (∀ i j, i < n → j < w → Q k (B i j)) ∧ numO.clr (B k k) = true)
  (fun _ x _ => w - x.t10.toNat) ?_
 rw [hl]
 refine ⟨⟨0, 0, A, rfl, rfl, by omega, by omega, h, by rw [Nat.sub_zero]; rfl, hA⟩, ?_⟩
 rintro ⟨t4, t13, o0⟩ V1 l1 ⟨c, s, B, e13, e4, hc, hs, hM, hE, hQ⟩
 dsimp only at e13 e4 hM ⊢
 subst e13; subst e4
 refine ⟨fun hlt => ⟨⟨⟨c, s, B, c, rfl, rfl, by simp at hlt; omega, hs, hM, hE, hQ, rfl, by omega, hc, fun q h1 h2 => by omega⟩, ?_⟩, ?_⟩, fun hge => ?_⟩
 · -- the search for the pivot
   rintro ⟨t6⟩ V3 l3 ⟨k, s', B', t, e13, e4, hk, hs', hM', hE', hQ', e6, h1, h2, h3⟩
   dsimp only at e13 e4 e6 hM' ⊢
   obtain rfl : c = k := by omega
   obtain rfl : s = s' := by omega
   subst e6
   refine ⟨fun hlt2 => ?_, fun hge2 => ?_⟩
   · simp only [decide_eq_true_eq] at hlt2
     have ht : t < n := by omega
     obtain ⟨g1, sl, g2, g3, g4, g5, g6, g7, g8⟩ := hM'.row ht
     obtain ⟨x, hx, hxl, hh, hsm⟩ := g7 c (by omega)
     obtain ⟨y, ey, hy⟩ := elN hx
     subst ey
     refine ⟨⟨by omega, by omega, g1⟩, sl, .inl (by rw [Int.toNat_natCast]; exact g2), ⟨by omega, by omega, g5 (by omega)⟩, y, by rw [Int.toNat_natCast]; exact hh, by rw [Int.toNat_natCast]; exact hsm, ?_⟩
     refine (clearN hy (q1 c _ (by omega) (hQ' t c ht (by omega)))).mono fun v V4 l4 hv => ⟨_, hv, fun hb => ?_, fun hb => ?_⟩
     · rw [i64w (by omega) (by omega)]
       refine ⟨⟨c, s, B', t + 1, rfl, rfl, hk, hs', hM'.le numC.le l4, hE', hQ', by omega, by omega, by omega, fun q hq1 hq2 => ?_⟩, by omega⟩
       by_cases e : q = t
       · subst e; simpa using hb
       · exact h3 q hq1 (by omega)
     · refine ⟨c, s, B', rfl, rfl, hk, hs', hM'.le numC.le l4, hE', hQ', ?_⟩
       rw [pivF_eq numO B' h1 h2 h3 (fun _ => by simpa using hb)]
   · simp only [decide_eq_false_iff_not] at hge2
     have e : t = n := by omega
     refine ⟨c, s, B', rfl, rfl, hk, hs', hM', hE', hQ', ?_⟩
     rw [pivF_eq numO B' h1 h2 h3 (fun h => by omega)]
 · -- behind it
   rintro ⟨t6⟩ V2 l2 ⟨k, s', B', e13, e4, hk, hs', hM', hE', hQ', e6⟩
   dsimp only at e13 e4 e6 hM' ⊢
   obtain rfl : c = k := by omega
   obtain rfl : s = s' := by omega
   subst e6
   obtain ⟨p1, p2, p3, p4⟩ := pivF_spec numO B' (c := c) (n := n) (by omega)
   refine ⟨fun heq => ?_, fun hne => ⟨⟨fun hsw => ?_, fun hns => ?_⟩, ?_⟩⟩
   · have e : pivF numO B' c n = n := by simp at heq; omega
     rw [← hE', elimF_stop numO n w hk B' s e]
     exact ⟨rfl, hM'⟩
   · have hpn : pivF numO B' c n < n := by simp at hne; omega
     have hpc : pivF numO B' c n ≠ c := by simp at hsw; omega
     obtain ⟨g1, sc, g2, _⟩ := hM'.row hk
     obtain ⟨_, sp, k2, _⟩ := hM'.row hpn
     obtain ⟨b1, c1, l1', u1, u2, u3, b2, c2, l2', u4, u5, u6, u7⟩ := hM'.swap (by omega) hk hpn g2 k2
     refine ⟨⟨by omega, by omega, g1⟩, sc, .inl (by rw [Int.toNat_natCast]; exact g2), ⟨by omega, by omega, g1⟩, sp, .inl (by rw [Int.toNat_natCast]; exact k2), ⟨by omega, by omega, g1⟩, b1, c1, l1', by rw [Int.toNat_natCast]; exact u1, u2, u3, ⟨by omega, by omega, g1⟩, b2, c2, l2', by rw [Int.toNat_natCast]; exact u4, u5, u6, ?_⟩
     rw [elimF_go numO n w hk B' s (by omega), if_neg hpc] at hE'
     have ep : pivotF B' c (pivF numO B' c n) = swapF B' c (pivF numO B' c n) := by unfold pivotF; rw [if_neg hpc]
     rw [i64w (by omega) (by omega)]
     refine ⟨c, s + 1, swapF B' c (pivF numO B' c n), rfl, by omega, hk, by omega, u7, by rw [← ep]; exact hE', fun i j hi hj => ?_, ?_⟩
     · unfold swapF
       split
       · exact hQ' _ j hpn hj
       · split
         · exact hQ' _ j hk hj
         · exact hQ' i j hi hj
     · simp only [swapF, if_true]; exact p4 hpn
   · have hpc : pivF numO B' c n = c := by simp at hns; omega
     have hpn : pivF numO B' c n < n := by omega
     rw [elimF_go numO n w hk B' s (by omega), if_pos hpc] at hE'
     have ep : pivotF B' c (pivF numO B' c n) = B' := by unfold pivotF; rw [if_pos hpc]
     rw [ep] at hE'
     exact ⟨c, s, B', rfl, rfl, hk, by omega, hM', hE', hQ', by have := p4 hpn; rw [hpc] at this; exact this⟩
   · -- the rows behind
     clear p1 p2 p3 p4 hE' hQ' hM'
     rintro ⟨t4', o0'⟩ V5 l5 ⟨k, s2, B2, e13', e4', hk2, hs2, hM2, hE2, hQ2, hcl⟩
     dsimp only at e13' e4' hM2 ⊢
     obtain rfl : c = k := by omega
     subst e4'
     refine ⟨⟨c, s2, B2, c + 1, rfl, rfl, hk, hs2, by rw [i64w (by omega) (by omega)]; omega, by omega, by omega, by rw [colF_start]; exact hM2, hE2, hQ2, hcl⟩, ?_⟩
     clear hM2 hE2 hQ2 hcl
     rintro ⟨t7, o0''⟩ V6 l6 ⟨k, s3, B3, R, f13, f4, hk3, hs3, f7, hkR, hRn, hM3, hE3, hQ3, hcl3⟩
     dsimp only at f13 f4 f7 hM3 ⊢
     obtain rfl : c = k := by omega
     obtain rfl : s2 = s3 := by omega
     subst f7
     refine ⟨fun hlt2 => ?_, fun hge2 => ?_⟩
     · simp only [decide_eq_true_eq] at hlt2
       have hR : R < n := by omega
       obtain ⟨g1, sr, g2, g3, g4, g5, g6, g7, g8⟩ := hM3.row hR
       obtain ⟨_, sc, k2, k3, k4, k5, k6, k7, k8⟩ := hM3.row hk
       obtain ⟨x, hx, hxl, hh, hsm⟩ := g7 c (by omega)
       obtain ⟨x', hx', hxl', hh', hsm'⟩ := k7 c (by omega)
       rw [colF_R] at hx
       rw [colF_c] at hx'
       obtain ⟨y, ey, hy⟩ := elN hx
       obtain ⟨y', ey', hy'⟩ := elN hx'
       subst ey; subst ey'
       refine ⟨⟨by omega, by omega, g1⟩, sr, .inl (by rw [Int.toNat_natCast]; exact g2), ⟨by omega, by omega, g5 (by omega)⟩, y, by rw [Int.toNat_natCast]; exact hh, by rw [Int.toNat_natCast]; exact hsm,
        ⟨by omega, by omega, g1⟩, sc, .inl (by rw [Int.toNat_natCast]; exact k2), ⟨by omega, by omega, k5 (by omega)⟩, y', by rw [Int.toNat_natCast]; exact hh', by rw [Int.toNat_natCast]; exact hsm', ?_⟩
       have qR := hQ3 R c hR (by omega)
       have qc := hQ3 c c hk (by omega)
       refine (divN hy hy' (q1 c _ (by omega) qR) (q1 c _ (by omega) qc) hcl3).mono fun v V7 l7 ⟨r2, hv, hr2⟩ => ⟨r2, 0, hv, ⟨c, s2, B3, R, c + 1, rfl, rfl, hk, hs3, rfl, hkR, hR, by rw [i64w (by omega) (by omega)]; omega, by omega, by omega, hr2, ?_, hE3, hQ3, hcl3⟩, ?_⟩
       · rw [rowF_start]; exact hM3.le numC.le l7
       · clear hM3 g1 g2 g3 g4 g5 g6 g7 g8 k2 k3 k4 k5 k6 k7 k8 hh hsm hh' hsm' hx hx' hy hy'
         rintro ⟨t10, o0'''⟩ V8 l8 ⟨k, s4, B4, R', K, d13, d4, hk4, hs4, d7, hkR4, hR4, d10, hkK, hKw, hf, hM4, hE4, hQ4, hcl4⟩
         dsimp only at d13 d4 d7 d10 hf hM4 ⊢
         obtain rfl : c = k := by omega
         obtain rfl : s2 = s4 := by omega
         obtain rfl : R = R' := by omega
         subst d10
         obtain ⟨g1, sr, g2, g3, g4, g5, g6, g7, g8⟩ := hM4.row hR
         refine ⟨⟨by omega, by omega, g1⟩, sr, .inl (by rw [Int.toNat_natCast]; exact g2), fun hlt3 => ?_, fun hge3 => ?_⟩
         · simp only [decide_eq_true_eq] at hlt3
           have hK : K < w := by omega
           obtain ⟨_, sc, k2, k3, k4, k5, k6, k7, k8⟩ := hM4.row hk
           obtain ⟨x, hx, hxl, hh, hsm⟩ := g7 K hK
           obtain ⟨x', hx', hxl', hh', hsm'⟩ := k7 K hK
           rw [rowF_K, colF_R] at hx
           rw [rowF_c numO _ _ _ (by omega), colF_c] at hx'
           obtain ⟨y, ey, hy⟩ := elN hx
           obtain ⟨y', ey', hy'⟩ := elN hx'
           subst ey; subst ey'
           have qR := hQ4 R c hR (by omega)
           have qc := hQ4 c c hk (by omega)
           have qRK := hQ4 R K hR hK
           have qcK := hQ4 c K hk hK
           refine ⟨⟨by omega, by omega, g1⟩, sr, .inl (by rw [Int.toNat_natCast]; exact g2), ⟨by omega, by omega, g1⟩, sr, .inl (by rw [Int.toNat_natCast]; exact g2), ⟨by omega, by omega, g5 (by omega)⟩, y, by rw [Int.toNat_natCast]; exact hh, by rw [Int.toNat_natCast]; exact hsm,
            ⟨by omega, by omega, g1⟩, sc, .inl (by rw [Int.toNat_natCast]; exact k2), ⟨by omega, by omega, k5 (by omega)⟩, y', by rw [Int.toNat_natCast]; exact hh', by rw [Int.toNat_natCast]; exact hsm', ?_⟩
           refine (mulfN hf hy' (q1 c _ (by omega) qR) (q1 c _ (by omega) qc) (q1 c _ (by omega) qcK)).mono fun v V9 l9 ⟨r4, hv, hr4⟩ => ⟨r4, hv, ?_⟩
           refine (subfN (atN.le l9 hy) hr4 (q1 c _ (by omega) qRK) (q1 c _ (by omega) qR) (q1 c _ (by omega) qc) (q1 c _ (by omega) qcK)).mono fun v V10 l10 ⟨r5, hv, hr5⟩ => ⟨r5, hv, ⟨by omega, by omega, g5 (by omega)⟩, ?_⟩
           obtain ⟨v1, v2, b3, c3, l3, v3, v4, v5, v6⟩ := (hM4.le numC.le (View.le_trans l9 l10)).put hR hK (lenN r5) (cellN hr5) g2
           refine ⟨b3, c3, l3, by rw [Int.toNat_natCast]; exact v3, v4, v5, ?_⟩
           rw [i64w (by omega) (by omega)]
           refine ⟨⟨c, s2, B4, R, K + 1, rfl, rfl, hk, hs4, rfl, hkR, hR, by omega, by omega, by omega, atN.le (View.le_trans l9 l10) hf, ?_, hE4, hQ4, hcl4⟩, by omega⟩
           have e := rowF_step numO (colF numO w B4 c R) (c := c) (R := R) (numO.div (B4 R c) (B4 c c)) hkK
           rw [← e, colF_R, colF_c]; exact v6
         · simp only [decide_eq_false_iff_not] at hge3
           have e : K = w := by omega
           subst e
           rw [i64w (by omega) (by omega)]
           rw [rowF_all numO K B4 hkR] at hM4
           exact ⟨⟨c, s2, B4, R + 1, rfl, rfl, hk, hs4, by omega, by omega, by omega, hM4, hE4, hQ4, hcl4⟩, by omega⟩
     · simp only [decide_eq_false_iff_not] at hge2
       have e : R = n := by omega
       subst e
       rw [i64w (by omega) (by omega)]
       refine ⟨⟨c + 1, s2, colF numO w B3 c R, by omega, rfl, by omega, hs3, hM3, hE3, fun i j hi hj => ?_⟩, by omega⟩
       unfold colF
       split
       · exact q2 c _ _ _ _ (hQ3 i j hi hj) (hQ3 i c hi (by omega)) (hQ3 c c hk (by omega)) (hQ3 c j hk hj)
       · exact q3 c _ (hQ3 i j hi hj)
 · simp only [decide_eq_false_iff_not] at hge
   have e : c = n := by omega
   subst e
   rw [elimF_end] at hE
   rw [← hE]
   exact ⟨rfl, hM⟩

theorem square_matN {n w : Nat} (A : Nat → Nat → Cq) (hn : n ≤ 32) (hw : w ≤ 32) : validN (matL n w A) = true ∧ (0 < n → colsOfN (matL n w A) = w) ∧ (n = 0 → colsOfN (matL n w A) = 0) := by
 have hc : 0 < n → colsOfN (matL n w A) = w := by
  intro h
  unfold colsOfN matL
  obtain ⟨m, rfl⟩ : ∃ m, n = m + 1 := ⟨n - 1, by omega⟩
  rw [List.range_succ_eq_map]
  simp [rowL_length]
 refine ⟨?_, hc, fun h => by subst h; rfl⟩
 unfold validN
 rcases Nat.eq_zero_or_pos n with h | h
 · subst h; rfl
 · rw [hc h, matL_length]
   have e : ((matL n w A).any fun row => decide (row.length ≠ w)) = false := by
    rw [List.any_eq_false]
    intro row hrow
    unfold matL at hrow
    obtain ⟨i, _, rfl⟩ := List.mem_map.1 hrow
    simp [rowL_length]
   rw [e]
   simp [hn, hw]
theorem isSq_N {V : View} {p : Sl} {n : Nat} {A : Nat → Nat → Cq} (h : RowsV 5 numC V p (matL n n A)) (hn : n ≤ 32) : CallV Tryz.prog n_num_isSquare_num_Num_ #[p.v] V fun v _ => v = .bool true := by
 refine (isSquare_num_Num_spec h (by rw [matL_length]; omega)).mono fun v V1 _ hv => ?_
 obtain ⟨h1, h2, h3⟩ := square_matN A hn hn
 rw [hv, h1, matL_length]
 rcases Nat.eq_zero_or_pos n with e | e
 · rw [h3 e, e]; rfl
 · rw [h2 e]; simp
structure BackN (n : Nat) (Q : Cq → Prop) (qs : Nat → Nat → Cq → Prop) (qx : Nat → Cq → Prop) : Prop where
 r0 : ∀ j x, j < n → Q x → qs j 0 x
 r1 : ∀ j i s a x, j < n → i < j → qs j i s → Q a → qx j x → qs j (i + 1) (numO.sub s (numO.mul a x))
 r2 : ∀ j s a, j < n → qs j j s → Q a → qx (j + 1) (numO.div s a)
 r3 : ∀ j x, j < n → qx j x → qx (j + 1) x
 k1 : ∀ x, Q x → okN x
 k2 : ∀ j i s, j < n → i ≤ j → qs j i s → okN s
 k3 : ∀ j x, j ≤ n → qx j x → okN x
theorem Solve_num_Num_spec {V : View} {p q : Sl} {n : Nat} {A : Nat → Nat → Cq} {b : Nat → Cq} (h : RowsV 5 numC V p (matL n n A)) (hb : ListAt 5 numC V q (rowL n b)) (hn : n ≤ 32)
 (Q : Nat → Cq → Prop) (q1 : ∀ c x, c ≤ n → Q c x → okN x) (q2 : ∀ c x y z u, Q c x → Q c y → Q c z → Q c u → Q (c + 1) (numO.sub x (numO.mul (numO.div y z) u))) (q3 : ∀ c x, Q c x → Q (c + 1) x)
 (hA : ∀ i j, i < n → j < n → Q 0 (A i j)) (hB : ∀ i, i < n → Q 0 (b i)) (qs : Nat → Nat → Cq → Prop) (qx : Nat → Cq → Prop) (hk : BackN n (Q n) qs qx) :
 CallV Tryz.prog n_num_Solve_num_Num_ #[p.v, q.v] V fun v V' => ∃ r : Sl, match (elim numO n (n + 1) (widerN A n fun _ i => b i)).2.2 with
  | none => v = .tuple #[r.v, .int .i64 0] ∧ ListAt 5 numC V' r (rowL n (backF numO Cq.zero (elim numO n (n + 1) (widerN A n fun _ i => b i)).1 n n))
  | some _ => v = .tuple #[r.v, .int .i64 6] ∧ r = ⟨none, 0, 0⟩ := by
 have hpl : p.len = n := by have := h.len; rw [matL_length] at this; exact this
 have hql : q.len = n := by have := hb.len; rw [rowL_length] at this; exact this
 let W := widerN A n fun _ i => b i
 let B := (elim numO n (n + 1) W).1
 have hWQ : ∀ i j, i < n → j < n + 1 → Q 0 (W i j) := by
  intro i j hi hj
  show Q 0 (if j < n then A i j else b i)
  split
  · exact hA i j hi (by assumption)
  · exact hB i hi
 have hBQ : ∀ i j, i < n → j < n + 1 → Q n (B i j) := elimF_inv numO Q n (n + 1) q2 q3 n 0 W 0 (by omega) (by omega) hWQ
 refine num_Solve_num_Num__vc p q V _ (fun _ _ _ => True)
  (fun _ x V' => ∃ j : Nat, x.t10 = (n : Int) - 1 - j ∧ j ≤ n ∧ Cells 5 numC V' x.o37 (rowL n (backF numO Cq.zero B n j)) ∧ ∀ i, n - j ≤ i → i < n → qx j (backF numO Cq.zero B n j i))
  (fun _ x _ => (x.t10 + 1).toNat)
  (fun c x V' => ∃ j i : Nat, c.t10 = (n : Int) - 1 - j ∧ j < n ∧ x.t12 = (n : Int) - j + i ∧ i ≤ j ∧ Cells 5 numC V' x.o37 (rowL n (backF numO Cq.zero B n j)) ∧ (∀ i, n - j ≤ i → i < n → qx j (backF numO Cq.zero B n j i)) ∧
    atN V' x.o11 (backS numO B (backF numO Cq.zero B n j) (n - (j + 1)) n i) ∧ qs j i (backS numO B (backF numO Cq.zero B n j) (n - (j + 1)) n i))
  (fun _ x _ => n - x.t12.toNat) ?_
 rw [hpl, hql]
 refine ⟨(isSq_N h hn).mono fun v V2 l2 hv => ⟨true, hv, fun hf => absurd hf (by simp), fun _ => ⟨fun hf => absurd hf (by simp), fun _ => trivial⟩⟩, ?_⟩
 rintro ⟨u⟩ V1 l1 -
 intro b3 V5 l5 _ hb3
 have hmore : RowsV 5 numC V5 ⟨some (Addr.mk b3 0 none), 1, 1⟩ (matL 1 n fun _ i => b i) := by
  have hb5 : ListAt 5 numC V5 q (rowL n b) := hb.le (numC.le (View.le_trans l1 l5)) (View.le_trans l1 l5)
  refine ListAt.of_block (o := [q.v]) (o' := []) (b := b3) (fun _ => by simpa using hb3) ?_ (by rw [matL_length]) (Nat.le_refl _) (fun _ => rfl)
  exact ⟨[q.v], [], rfl, rfl, ⟨q, rfl, hb5⟩, rfl⟩
 refine (copied_num_Num_spec (h.le numC.le (View.le_trans l1 l5)) hmore (by omega) (by omega) (by omega)).mono fun v m1 V6 l6 _ ⟨r2, hv, hM⟩ => ⟨r2, hv, ?_⟩
 refine (eliminate_num_Num_spec Q hM (by omega) (by omega) q1 q2 q3 hWQ).mono fun v m2 V7 l7 _ ⟨hv, hM2⟩ => ⟨_, _, hv, by decide, fun V8 l8 hpub => ?_⟩
 have hRB : RowsV 5 numC V8 r2 (matL n (n + 1) B) := hM2.known (numC.le l8) hpub
 have hr2 : r2.len = n := by have := hRB.len; rw [matL_length] at this; exact this
 cases hstop : (elim numO n (n + 1) W).2.2 with
 | some c =>
   exact ⟨fun _ => ⟨⟨none, 0, 0⟩, rfl, rfl⟩, fun hf => absurd hf (by simp)⟩
 | none =>
   have hdiag := elimF_diag numO n (n + 1) n 0 W 0 (by omega) (fun i hi => absurd hi (by omega)) hstop
   refine ⟨fun hf => absurd hf (by simp), fun _ => ?_⟩
   refine ⟨⟨by omega, by omega, by omega, by omega⟩, ⟨0, by rw [i64w (by omega) (by omega)]; show (n : Int) - 1 = _; omega, by omega, ?_, fun i h1 h2 => by omega⟩, ?_⟩
   · have := Cells.replicate (sz := 5) (P := numC) (V := V8) rfl (zeroN V8) n
     rw [Int.toNat_natCast]
     have e : rowL n (backF numO Cq.zero B n 0) = List.replicate n Cq.zero := rowL_const n Cq.zero
     rw [e]; exact this
   rintro ⟨t10, o37⟩ V9 l9 ⟨j, e10, hj, hC, hx⟩
   dsimp only at e10 hC ⊢
   refine ⟨fun hge => ?_, fun hlt => ?_⟩
   · have hjn : j < n := by simp at hge; omega
     have ec : t10.toNat = n - (j + 1) := by omega
     obtain ⟨g1, s1, g2, g3⟩ := (hRB.le numC.le l9).row (t := t10) (by omega) (row := rowL (n + 1) (B (n - (j + 1)))) (by rw [ec]; exact matL_get (by omega) B)
     obtain ⟨c1, x, hxx, hxl, hh, hs⟩ := ListAt.get g3 (t := (n : Int)) (by omega) (z := B (n - (j + 1)) n) (by rw [Int.toNat_natCast]; exact rowL_get (by omega) _)
     obtain ⟨y, ey, hy⟩ := elN hxx
     subst ey
     refine ⟨g1, s1, g2, c1, y, hh, hs, ⟨j, 0, e10, hjn, by rw [i64w (by omega) (by omega)]; omega, by omega, hC, hx, hy, hk.r0 j _ hjn (hBQ _ _ (by omega) (by omega))⟩, ?_⟩
     clear hh hs hxx hxl g2 g3 c1
     rintro ⟨t12, o11, o37'⟩ V10 l10 ⟨j', i, e10', hj', e12, hi, hC', hx', hS, hqS⟩
     dsimp only at e10' e12 hC' hS ⊢
     obtain rfl : j = j' := by omega
     obtain ⟨g1, s1, g2, g3⟩ := (hRB.le numC.le (View.le_trans l9 l10)).row (t := t10) (by omega) (row := rowL (n + 1) (B (n - (j + 1)))) (by rw [ec]; exact matL_get (by omega) B)
     refine ⟨fun hlt2 => ?_, fun hge2 => ?_⟩
     · have hij : i < j := by simp at hlt2; omega
       have ek : t12.toNat = n - (j + 1) + 1 + i := by omega
       obtain ⟨c1, x, hxx, hxl, hh, hs⟩ := ListAt.get g3 (t := t12) (by omega) (z := B (n - (j + 1)) (n - (j + 1) + 1 + i)) (by rw [ek]; exact rowL_get (by omega) _)
       obtain ⟨y1, ey, hy1⟩ := elN hxx
       subst ey
       obtain ⟨x', hx2, hxl2, hg⟩ := hC'.at (i := t12.toNat) (z := backF numO Cq.zero B n j (n - (j + 1) + 1 + i)) (by rw [ek]; exact rowL_get (by omega) _)
       obtain ⟨y2, ey2, hy2⟩ := elN hx2
       subst ey2
       have qa := hBQ (n - (j + 1)) (n - (j + 1) + 1 + i) (by omega) (by omega)
       have qX := hx' (n - (j + 1) + 1 + i) (by omega) (by omega)
       have okx := hk.k3 j _ (by omega) qX
       refine ⟨g1, s1, g2, c1, y1, hh, hs, ⟨by omega, by omega⟩, y2, hg, ?_⟩
       refine (mulN hy1 hy2 (hk.k1 _ qa) okx).mono fun v V11 l11 ⟨r5, hv, h5⟩ => ⟨r5, hv, ?_⟩
       refine (subN (atN.le l11 hS) h5 (hk.k2 j i _ hjn (by omega) hqS) (hk.k1 _ qa) okx).mono fun v V12 l12 ⟨r6, hv, h6⟩ => ⟨r6, hv, ?_⟩
       rw [i64w (by omega) (by omega)]
       exact ⟨⟨j, i + 1, e10, hjn, by omega, by omega, hC'.imp (numC.le (View.le_trans l11 l12)), hx', h6, hk.r1 j i _ _ _ hjn hij hqS qa qX⟩, by omega⟩
     · have hij : i = j := by simp at hge2; omega
       subst hij
       obtain ⟨c1, x, hxx, hxl, hh, hs⟩ := ListAt.get g3 (t := t10) (by omega) (z := B (n - (i + 1)) (n - (i + 1))) (by rw [ec]; exact rowL_get (by omega) _)
       obtain ⟨y1, ey, hy1⟩ := elN hxx
       subst ey
       have qa := hBQ (n - (i + 1)) (n - (i + 1)) (by omega) (by omega)
       refine ⟨g1, s1, g2, c1, y1, hh, hs, ?_⟩
       refine (divN hS hy1 (hk.k2 i i _ hjn (Nat.le_refl _) hqS) (hk.k1 _ qa) (hdiag _ (by omega))).mono fun v V13 l13 ⟨r7, hv, h7⟩ => ⟨r7, 0, hv, ⟨by omega, by omega⟩, ?_, ?_⟩
       · rw [hC'.length, rowL_length, ec]
         have e2 : (n - (i + 1)) * 5 + 5 = (n - (i + 1) + 1) * 5 := by rw [Nat.add_mul, Nat.one_mul]
         rw [Nat.zero_add, e2]
         exact Nat.mul_le_mul_right _ (by omega)
       · rw [i64w (by omega) (by omega)]
         have hset := (hC'.imp (numC.le l13)).set0 (i := n - (i + 1)) (by rw [rowL_length]; omega) (lenN r7) (cellN h7)
         rw [rowL_set] at hset
         refine ⟨⟨i + 1, by omega, by omega, by rw [ec]; exact hset, fun k h1 h2 => ?_⟩, by omega⟩
         simp only [backF]
         by_cases e : k = n - (i + 1)
         · rw [if_pos e]; exact hk.r2 i _ _ hjn hqS qa
         · rw [if_neg e]; exact hk.r3 i _ hjn (hx' k (by omega) h2)
   · have hjn : j = n := by simp at hlt; omega
     subst hjn
     intro b5 V14 l14 hb5
     rw [Int.toNat_natCast]
     refine ⟨⟨some (Addr.mk b5 0 none), j, j⟩, rfl, ?_⟩
     exact ListAt.of_made hb5 (hC.imp (numC.le l14)) (by rw [rowL_length])

def Xb (T : Nat) : Nat → Nat
 | 0 => 0
 | j + 1 => max (Xb T j) (4 * (T + j * (T + Xb T j + 2)) + 8)
theorem Xb_le {T : Nat} : ∀ {j n : Nat}, j ≤ n → Xb T j ≤ Xb T n
 | j, 0, h => by have : j = 0 := by omega
                 subst this; exact Nat.le_refl _
 | j, n + 1, h => by
   by_cases e : j = n + 1
   · subst e; exact Nat.le_refl _
   · exact Nat.le_trans (Xb_le (j := j) (n := n) (by omega)) (Nat.le_max_left _ _)
theorem backN_ok {n T : Nat} (h : T + n * (T + Xb T n + 2) ≤ 2 ^ 36) (hX : Xb T n ≤ 2 ^ 36) :
 BackN n (fun z => z.sz ≤ T) (fun j i s => s.sz ≤ T + i * (T + Xb T j + 2)) (fun j x => x.sz ≤ Xb T j) := by
 refine ⟨fun j x _ hx => by rw [Nat.zero_mul]; exact hx, fun j i s a x hj hi hs ha hx => ?_, fun j s a hj hs ha => ?_, fun j x _ hx => Nat.le_trans hx (Nat.le_max_left _ _), fun x hx => ?_, fun j i s hj hi hs => ?_, fun j x hj hx => ?_⟩
 · have h1 := Cq.sz_mul a x
   have h2 := Cq.sz_sub s (a * x)
   show (s - a * x).sz ≤ _
   rw [Nat.add_mul, Nat.one_mul]; omega
 · have hd : (s.div a).sz ≤ 4 * (T + j * (T + Xb T j + 2)) + 8 := div_sz hs (by
     have : 0 ≤ j * (T + Xb T j + 2) := Nat.zero_le _
     omega)
   exact Nat.le_trans hd (Nat.le_max_right _ _)
 · unfold okN; omega
 · have h1 := Xb_le (T := T) (j := j) (n := n) (by omega)
   have h2 : i * (T + Xb T j + 2) ≤ n * (T + Xb T n + 2) := Nat.mul_le_mul (by omega) (by omega)
   unfold okN; omega
 · have h1 := Xb_le (T := T) (j := j) (n := n) hj
   unfold okN; omega
def qN (S : Nat) (c : Nat) (z : Cq) : Prop := z.sz + 2 ≤ (S + 2) * 6 ^ c
theorem qN_2 {S : Nat} (c : Nat) (x y z u : Cq) (hx : qN S c x) (hy : qN S c y) (hz : qN S c z) (hu : qN S c u) : qN S (c + 1) (numO.sub x (numO.mul (numO.div y z) u)) := by
 unfold qN at *
 rw [Nat.pow_succ]
 have e : (S + 2) * (6 ^ c * 6) = ((S + 2) * 6 ^ c) * 6 := by rw [Nat.mul_assoc]
 rw [e]
 generalize (S + 2) * 6 ^ c = T at *
 have h1 : (y.div z).sz ≤ 4 * (T - 2) + 8 := div_sz (by omega) (by omega)
 have h2 := Cq.sz_mul (y.div z) u
 have h3 := Cq.sz_sub x (y.div z * u)
 show (x - y.div z * u).sz + 2 ≤ _
 omega
theorem qN_3 {S : Nat} (c : Nat) (x : Cq) (hx : qN S c x) : qN S (c + 1) x := by
 unfold qN at *
 rw [Nat.pow_succ]
 have e : (S + 2) * (6 ^ c * 6) = ((S + 2) * 6 ^ c) * 6 := by rw [Nat.mul_assoc]
 omega
theorem qN_1 {S n : Nat} (h : (S + 2) * 6 ^ n ≤ 2 ^ 36) (c : Nat) (x : Cq) (hc : c ≤ n) (hx : qN S c x) : okN x := by
 unfold qN at hx
 have : (S + 2) * 6 ^ c ≤ (S + 2) * 6 ^ n := Nat.mul_le_mul_left _ (Nat.pow_le_pow_right (by omega) hc)
 unfold okN; omega
def augN (n : Nat) (A : Nat → Nat → Cq) (b : Nat → Cq) : Nat → Nat → Cq := widerN A n fun _ i => b i
theorem SolveN_spec {V : View} {p q : Sl} {n : Nat} {A : Nat → Nat → Cq} {b : Nat → Cq} (S : Nat) (h : RowsV 5 numC V p (matL n n A)) (hb : NumsAt V q (rowL n b)) (hn : n ≤ 32) (hA : ∀ i j, i < n → j < n → (A i j).sz ≤ S) (hB : ∀ i, i < n → (b i).sz ≤ S)
 (hS : (S + 2) * 6 ^ n + n * ((S + 2) * 6 ^ n + Xb ((S + 2) * 6 ^ n) n + 2) ≤ 2 ^ 36) (hX : Xb ((S + 2) * 6 ^ n) n ≤ 2 ^ 36) :
 CallV Tryz.prog n_num_Solve_num_Num_ #[p.v, q.v] V fun v V' => ∃ r : Sl, match (elim numO n (n + 1) (augN n A b)).2.2 with
  | none => v = .tuple #[r.v, .int .i64 0] ∧ NumsAt V' r (rowL n (backF numO Cq.zero (elim numO n (n + 1) (augN n A b)).1 n n)) ∧ ∀ i, i < n → (backF numO Cq.zero (elim numO n (n + 1) (augN n A b)).1 n n i).sz ≤ Xb ((S + 2) * 6 ^ n) n
  | some _ => v = .tuple #[r.v, .int .i64 6] ∧ r = ⟨none, 0, 0⟩ := by
 have q0 : ∀ {z : Cq}, z.sz ≤ S → qN S 0 z := fun hz => by unfold qN; rw [Nat.pow_zero]; omega
 have qT : ∀ {z : Cq}, qN S n z → z.sz ≤ (S + 2) * 6 ^ n := fun hz => by unfold qN at hz; omega
 have hk := backN_ok (T := (S + 2) * 6 ^ n) hS hX
 have hk' : BackN n (qN S n) (fun j i s => s.sz ≤ (S + 2) * 6 ^ n + i * ((S + 2) * 6 ^ n + Xb ((S + 2) * 6 ^ n) j + 2)) (fun j x => x.sz ≤ Xb ((S + 2) * 6 ^ n) j) :=
  ⟨fun j x hj hx => hk.r0 j x hj (qT hx), fun j i s a x hj hi hs ha hx => hk.r1 j i s a x hj hi hs (qT ha) hx, fun j s a hj hs ha => hk.r2 j s a hj hs (qT ha), hk.r3, fun x hx => hk.k1 x (qT hx), hk.k2, hk.k3⟩
 have hok : ∀ c x, c ≤ n → qN S c x → okN x := qN_1 (by omega)
 refine (Solve_num_Num_spec h hb hn (qN S) hok qN_2 qN_3 (fun i j hi hj => q0 (hA i j hi hj)) (fun i hi => q0 (hB i hi)) _ _ hk').mono fun v V' _ ⟨r, hr⟩ => ⟨r, ?_⟩
 unfold augN
 cases e : (elim numO n (n + 1) (widerN A n fun _ i => b i)).2.2 with
 | some c => rw [e] at hr; exact hr
 | none =>
   rw [e] at hr
   refine ⟨hr.1, hr.2, fun i hi => ?_⟩
   have hBQ : ∀ i j, i < n → j < n + 1 → qN S n ((elim numO n (n + 1) (widerN A n fun _ i => b i)).1 i j) := elimF_inv numO (qN S) n (n + 1) qN_2 qN_3 n 0 _ 0 (by omega) (by omega) fun i j hi hj => by
    show qN S 0 (if j < n then A i j else b i)
    split
    · exact q0 (hA i j hi (by assumption))
    · exact q0 (hB i hi)
   have key : ∀ j, j ≤ n → ∀ i, n - j ≤ i → i < n → (backF numO Cq.zero (elim numO n (n + 1) (widerN A n fun _ i => b i)).1 n j i).sz ≤ Xb ((S + 2) * 6 ^ n) j := by
    intro j
    induction j with
    | zero => intro _ i h1 h2; omega
    | succ j ih =>
      intro hj i h1 h2
      have ih := ih (by omega)
      simp only [backF]
      by_cases e : i = n - (j + 1)
      · rw [if_pos e]
        refine hk'.r2 j _ _ (by omega) ?_ (hBQ _ _ (by omega) (by omega))
        have bs : ∀ k, k ≤ j → (backS numO (elim numO n (n + 1) (widerN A n fun _ i => b i)).1 (backF numO Cq.zero (elim numO n (n + 1) (widerN A n fun _ i => b i)).1 n j) (n - (j + 1)) n k).sz ≤ (S + 2) * 6 ^ n + k * ((S + 2) * 6 ^ n + Xb ((S + 2) * 6 ^ n) j + 2) := by
         intro k
         induction k with
         | zero => intro _; exact hk'.r0 j _ (by omega) (hBQ _ _ (by omega) (by omega))
         | succ k ihk => intro hkj; exact hk'.r1 j k _ _ _ (by omega) (by omega) (ihk (by omega)) (hBQ _ _ (by omega) (by omega)) (ih _ (by omega) (by omega))
        exact bs j (Nat.le_refl j)
      · rw [if_neg e]; exact hk'.r3 j _ (by omega) (ih i (by omega) h2)
   exact key n (Nat.le_refl n) i (by omega) hi

def adjQ (A : Nat → Nat → Cq) : Nat → Nat → Cq := fun k i => (A i k).conj
theorem Adjoint_spec {V : View} {p : Sl} {n w : Nat} {A : Nat → Nat → Cq} (h : RowsV 5 numC V p (matL n w A)) (h0 : 0 < n) (hn : n ≤ 32) (hw : w ≤ 32) :
 CallV Tryz.prog n_num_Adjoint_num_Num_ #[p.v] V fun v V' => ∃ r : Sl, v = .tuple #[r.v, .int .i64 0] ∧ RowsV 5 numC V' r (matL w n (adjQ A)) := by
 have hl : p.len = n := by have := h.len; rw [matL_length] at this; exact this
 obtain ⟨e1, e2, _⟩ := square_matN A hn hw
 have e2 := e2 h0
 refine num_Adjoint_num_Num__vc p V _
  (fun _ x V' => ∃ k : Nat, x.t20 = k ∧ k ≤ w ∧ x.o17.length = w ∧ RowsR 5 numC x.o0 V' x.o17 w (fun i => if i < k then rowL n (adjQ A i) else [])) (fun _ x _ => w - x.t20.toNat)
  (fun c x V' => ∃ k j : Nat, c.t20 = k ∧ c.t7 = k ∧ k < w ∧ x.t25 = j ∧ j ≤ n ∧ x.o17.length = w ∧ RowsR 5 numC x.o0 V' x.o17 w (fun i => if i < k then rowL n (adjQ A i) else if i = k then rowL j (adjQ A k) else [])) (fun _ x _ => n - x.t25.toNat) ?_
 refine (columns_num_Num_spec h (by rw [matL_length]; omega)).mono fun v V1 l1 hv => ⟨_, _, hv, fun hf => ?_, fun _ => ?_⟩
 · rw [e1] at hf; simp at hf
 rw [e2, hl, Int.toNat_natCast]
 refine ⟨⟨by omega, by omega, by omega, by omega⟩, ⟨0, rfl, by omega, by simp, ?_⟩, ?_⟩
 · rw [flat1]; exact (RowsR.nils V1 w).congr fun i _ => by rw [if_neg (by omega)]
 rintro ⟨t20, o0, o17⟩ V3 l3 ⟨k, ek, hk, hol, hR⟩
 dsimp only at ek hol hR ⊢
 subst ek
 refine ⟨fun hlt => ⟨⟨k, 0, rfl, rfl, by simp at hlt; omega, rfl, by omega, hol, hR.congr fun i hi => ?_⟩, ?_⟩, fun hge => ?_⟩
 · by_cases e : i < k
   · rw [if_pos e, if_pos e]
   · rw [if_neg e, if_neg e]
     split <;> rfl
 · rintro ⟨t25, o0', o17'⟩ V4 l4 ⟨k', j, ek, _, hkw, ej, hj, hol', hR'⟩
   dsimp only at ek ej hol' hR' ⊢
   obtain rfl : k = k' := by omega
   subst ej
   refine ⟨fun hlt2 => ?_, fun hge2 => ?_⟩
   · have hjn : j < n := by simp at hlt2; omega
     obtain ⟨s3, e3, r1, r2, r3, ⟨o3, r4, r5, r6⟩, r7⟩ := hR'.row (i := k) hkw
     rw [if_neg (by omega), if_pos rfl] at r1 r6
     rw [rowL_length] at r1
     obtain ⟨g1, s, g2, g3⟩ := (h.le numC.le (View.le_trans l1 (View.le_trans l3 l4))).row (t := (j : Int)) (by omega) (row := rowL w (A j)) (by rw [Int.toNat_natCast]; exact matL_get hjn A)
     rw [hl] at g1
     obtain ⟨d1, x, hx, hxl, hh, hs⟩ := ListAt.get g3 (t := (k : Int)) (by omega) (z := A j k) (by rw [Int.toNat_natCast]; exact rowL_get hkw _)
     obtain ⟨y, rfl, hy⟩ := hx
     refine ⟨⟨by omega, by omega⟩, s3, by rw [Int.toNat_natCast, Nat.mul_one, Nat.zero_add]; exact e3, g1, s, .inr g2, d1, y, .inr hh, hs, (Num_Conj_spec hy).mono fun v V5 l5 ⟨r, hv, hr⟩ => ⟨r, hv, fun b2 V6 l6 _ hb2 => ?_⟩⟩
     have hnew : V6.has (some (Addr.mk b2 0 none)) r.val.cells.toList := rhas_block (cs := r.val.cells.toList) (j := 0) hb2 (fun i v hv => by rw [Nat.zero_add]; exact hv) rfl
     have hrc : numC V6 r.val.cells.toList (adjQ A k j) := ⟨r, rfl, hr.le l6⟩
     refine ⟨o3, _, ⟨r2, r3⟩, has2_le (View.le_trans l5 l6) r4, r5, .inr hnew, rfl, oneN hrc, by unfold maxLen; omega, by omega, fun _ h2 => r7 1 (by omega) h2, fun a1 c1 m1 ha => ⟨⟨by omega, by omega⟩, by rw [hol', Int.toNat_natCast]; omega, ?_⟩⟩
     have := (hR'.le numC.le (View.le_trans l5 l6)).app (i := k) hkw e3 (z := adjQ A k j) rfl hrc (o' := o3) (by rw [if_neg (by omega), if_pos rfl]; exact r6.imp (numC.le (View.le_trans l5 l6))) ha
     rw [i64w (by omega) (by omega)]
     refine ⟨⟨k, j + 1, rfl, rfl, hkw, by omega, by omega, by simp [hol'], ?_⟩, by omega⟩
     have e1 : (0 + Int.toNat (k : Int) * 1) = k := by omega
     rw [e1]
     refine this.congr fun i hi => ?_
     by_cases e : i = k
     · subst e
       simp only [if_true, Nat.lt_irrefl, if_false]
       exact rowL_push _ _
     · simp only [if_neg e]
   · have e : j = n := by simp at hge2; omega
     subst e
     rw [i64w (by omega) (by omega)]
     refine ⟨⟨k + 1, by omega, by omega, hol', hR'.congr fun i hi => ?_⟩, by omega⟩
     by_cases e : i < k
     · rw [if_pos e, if_pos (by omega)]
     · rw [if_neg e]
       by_cases e2 : i = k
       · subst e2; rw [if_pos rfl, if_pos (by omega)]
       · rw [if_neg e2, if_neg (by omega)]
 · have e : k = w := by simp at hge; omega
   subst e
   refine ⟨by decide, fun V7 l7 hpub b5 V8 l8 hb5 => ⟨_, rfl, ?_⟩⟩
   have hR2 : RowsR 5 numC o0 V3 o17 k (fun i => rowL n (adjQ A i)) := hR.congr fun i hi => by rw [if_pos hi]
   exact hR2.knownL numC.le hol (View.le_trans l7 l8) (fun b cs hb => l8 b cs (hpub b cs hb)) hb5
def nrmA (n : Nat) (A : Nat → Nat → Cq) : Nat → Nat → Cq := fun i j => sq (fun k => adjQ A i k * A k j) 0 n
def nrmB (n : Nat) (A : Nat → Nat → Cq) (b : Nat → Cq) : Nat → Cq := fun i => sq (fun k => adjQ A i k * b k) 0 n
theorem sq_sz {f : Nat → Cq} {S : Nat} : ∀ (j : Nat), (∀ k, k < j → (f k).sz ≤ S) → (sq f 0 j).sz ≤ 1 + j * (S + 1)
 | 0, _ => by have := Cq.sz_zero; show Cq.zero.sz ≤ _; omega
 | j + 1, h => by
   have ih := sq_sz j fun k hk => h k (by omega)
   have h1 := Cq.sz_add (sq f 0 j) (f (0 + j))
   have h2 := h (0 + j) (by omega)
   rw [sq, Nat.add_mul]; omega
theorem nrmA_sz {n : Nat} {A : Nat → Nat → Cq} {S w : Nat} (h : ∀ i j, i < n → j < w → (A i j).sz ≤ S) (m : Nat) (hm : m ≤ n) (i j : Nat) (hi : i < w) (hj : j < w) : (sq (fun k => adjQ A i k * A k j) 0 m).sz ≤ 1 + n * (2 * S + 2) := by
 have := sq_sz (f := fun k => adjQ A i k * A k j) (S := 2 * S + 1) m fun k hk => by
  have h1 := Cq.sz_mul (adjQ A i k) (A k j)
  have h2 := h k i (by omega) hi
  have h3 := h k j (by omega) hj
  have h4 : (adjQ A i k).sz = (A k i).sz := Cq.sz_conj _
  omega
 have h2 : m * (2 * S + 1 + 1) ≤ n * (2 * S + 2) := Nat.mul_le_mul hm (by omega)
 omega
theorem nrmB_sz {n : Nat} {A : Nat → Nat → Cq} {b : Nat → Cq} {S w : Nat} (h : ∀ i j, i < n → j < w → (A i j).sz ≤ S) (hb : ∀ i, i < n → (b i).sz ≤ S) (m : Nat) (hm : m ≤ n) (i : Nat) (hi : i < w) : (sq (fun k => adjQ A i k * b k) 0 m).sz ≤ 1 + n * (2 * S + 2) := by
 have := sq_sz (f := fun k => adjQ A i k * b k) (S := 2 * S + 1) m fun k hk => by
  have h1 := Cq.sz_mul (adjQ A i k) (b k)
  have h2 := h k i (by omega) hi
  have h3 := hb k (by omega)
  have h4 : (adjQ A i k).sz = (A k i).sz := Cq.sz_conj _
  omega
 have h2 : m * (2 * S + 1 + 1) ≤ n * (2 * S + 2) := Nat.mul_le_mul hm (by omega)
 omega
theorem Least_spec {V : View} {p q : Sl} {n w : Nat} {A : Nat → Nat → Cq} {b : Nat → Cq} (S : Nat) (h : RowsV 5 numC V p (matL n w A)) (hb : NumsAt V q (rowL n b)) (h0 : 0 < n) (hn : n ≤ 32) (hw : w ≤ 32)
 (hA : ∀ i j, i < n → j < w → (A i j).sz ≤ S) (hB : ∀ i, i < n → (b i).sz ≤ S) (T : Nat) (hT : T = 1 + n * (2 * S + 2))
 (hS : (T + 2) * 6 ^ w + w * ((T + 2) * 6 ^ w + Xb ((T + 2) * 6 ^ w) w + 2) ≤ 2 ^ 36) (hX : Xb ((T + 2) * 6 ^ w) w ≤ 2 ^ 36) :
 CallV Tryz.prog n_num_Least #[p.v, q.v] V fun v V' => ∃ r : Sl, match (elim numO w (w + 1) (augN w (nrmA n A) (nrmB n A b))).2.2 with
  | none => v = .tuple #[r.v, .int .i64 0] ∧ NumsAt V' r (rowL w (backF numO Cq.zero (elim numO w (w + 1) (augN w (nrmA n A) (nrmB n A b))).1 w w)) ∧
      ∀ i, i < w → (backF numO Cq.zero (elim numO w (w + 1) (augN w (nrmA n A) (nrmB n A b))).1 w w i).sz ≤ Xb ((T + 2) * 6 ^ w) w
  | some _ => v = .tuple #[r.v, .int .i64 6] ∧ r = ⟨none, 0, 0⟩ := by
 have hl : p.len = n := by have := h.len; rw [matL_length] at this; exact this
 have hql : q.len = n := by have := hb.len; rw [rowL_length] at this; exact this
 have hpw : 0 < 6 ^ w := Nat.pow_pos (by omega)
 have hTb : T + 2 ≤ 2 ^ 36 := by
  have : (T + 2) * 1 ≤ (T + 2) * 6 ^ w := Nat.mul_le_mul_left _ hpw
  omega
 have hSb : 2 * S + 2 ≤ 2 ^ 36 := by
  have : 1 * (2 * S + 2) ≤ n * (2 * S + 2) := Nat.mul_le_mul_right _ h0
  omega
 have hcsz : ∀ i k, i < w → k < n → (adjQ A i k).sz ≤ S := fun i k hi hk => by rw [show (adjQ A i k).sz = (A k i).sz from Cq.sz_conj _]; exact hA k i hk hi
 refine num_Least_vc p q V _ (fun _ _ _ => True)
  (fun _ x V' => ∃ i : Nat, x.t38 = i ∧ i ≤ w ∧ x.o32.length = w ∧ RowsR 5 numC x.o0 V' x.o32 w (fun r => if r < i then rowL w (nrmA n A r) else []) ∧ Cells 5 numC V' x.o35 (rowL w fun r => if r < i then nrmB n A b r else Cq.zero))
  (fun _ x _ => w - x.t38.toNat)
  (fun c x V' => ∃ i j : Nat, c.t38 = i ∧ c.t10 = i ∧ i < w ∧ x.t45 = j ∧ j ≤ w ∧ x.o32.length = w ∧ RowsR 5 numC x.o0 V' x.o32 w (fun r => if r < i then rowL w (nrmA n A r) else if r = i then rowL j (nrmA n A i) else []) ∧
    Cells 5 numC V' x.o35 (rowL w fun r => if r < i then nrmB n A b r else Cq.zero))
  (fun _ x _ => w - x.t45.toNat)
  (fun c x V' => ∃ i j k : Nat, c.t38 = i ∧ c.t10 = i ∧ i < w ∧ c.t45 = j ∧ c.t12 = j ∧ j < w ∧ x.t50 = k ∧ k ≤ n ∧ x.o32.length = w ∧ RowsR 5 numC x.o0 V' x.o32 w (fun r => if r < i then rowL w (nrmA n A r) else if r = i then rowL j (nrmA n A i) else []) ∧
    Cells 5 numC V' c.o35 (rowL w fun r => if r < i then nrmB n A b r else Cq.zero) ∧ NumAt V' x.o13 (sq (fun k => adjQ A i k * A k j) 0 k))
  (fun _ x _ => n - x.t50.toNat)
  (fun c x V' => ∃ i k : Nat, c.t38 = i ∧ c.t10 = i ∧ i < w ∧ x.t81 = k ∧ k ≤ n ∧ c.o32.length = w ∧ RowsR 5 numC c.o0 V' c.o32 w (fun r => if r < i + 1 then rowL w (nrmA n A r) else []) ∧
    Cells 5 numC V' x.o35 (rowL w fun r => if r < i then nrmB n A b r else if r = i then sq (fun k => adjQ A i k * b k) 0 k else Cq.zero))
  (fun _ x _ => n - x.t81.toNat) ?_
 refine (Adjoint_spec h h0 hn hw).mono fun v V1 l1 ⟨r1, hv, hr1⟩ => ⟨r1, 0, hv, ⟨fun hf => absurd hf (by simp), fun _ => ⟨fun hf => ?_, fun _ => trivial⟩⟩, ?_⟩
 · rw [hl, hql] at hf; simp at hf
 have hrl : r1.len = w := by have := hr1.len; rw [matL_length] at this; exact this
 rintro ⟨u⟩ V2 l2 -
 rw [hrl, hl]
 have hz : (List.replicate (Int.toNat (w : Int)) [Value.bool false, Value.slice none 0 0, Value.bool false, Value.slice none 0 0, Value.slice none 0 0]).flatten.length = w * 5 := by simp
 refine ⟨⟨by omega, by omega, by omega, by omega⟩, ⟨by omega, by omega, by omega, by omega⟩, ⟨0, rfl, by omega, by simp, ?_, ?_⟩, ?_⟩
 · rw [flat1, Int.toNat_natCast]; exact (RowsR.nils V2 w).congr fun i _ => by rw [if_neg (by omega)]
 · have e : (rowL w fun r => if r < 0 then nrmB n A b r else Cq.zero) = List.replicate w Cq.zero := by
     rw [← rowL_const]; exact rowL_congr fun k _ => by rw [if_neg (by omega)]
   rw [e, Int.toNat_natCast]; exact NumsIn.zeros V2 w
 rintro ⟨t38, o0, o32, o35⟩ V5 l5 ⟨i, ei, hi, hol, hR, hC⟩
 dsimp only at ei hol hR hC ⊢
 subst ei
 refine ⟨fun hlt => ?_, fun hge => ?_⟩
 · have hiw : i < w := by simp at hlt; omega
   have L5 := View.le_trans l2 l5
   obtain ⟨g1, s, g2, g3⟩ := (hr1.le numC.le L5).row (t := (i : Int)) (by omega) (row := rowL n (adjQ A i)) (by rw [Int.toNat_natCast]; exact matL_get hiw _)
   rw [hrl] at g1
   have g3l : s.len = n := by have := g3.len; rw [rowL_length] at this; exact this
   refine ⟨g1, s, .inr g2, ⟨i, 0, rfl, rfl, hiw, rfl, by omega, hol, hR.congr fun r _ => ?_, hC⟩, ?_⟩
   · by_cases e : r < i
     · rw [if_pos e, if_pos e]
     · rw [if_neg e, if_neg e]; split <;> rfl
   rintro ⟨t45, o0', o32', o35'⟩ V6 l6 ⟨i', j, ei, _, _, ej, hj, hol', hR', hC'⟩
   dsimp only at ei ej hol' hR' hC' ⊢
   obtain rfl : i = i' := by omega
   subst ej
   refine ⟨fun hlt2 => ?_, fun hge2 => ?_⟩
   · have hjw : j < w := by simp at hlt2; omega
     refine ⟨⟨i, j, 0, rfl, rfl, hiw, rfl, rfl, hjw, rfl, by omega, hol', hR', hC', NumAt.zero V6⟩, ?_⟩
     rintro ⟨t50, o0'', o13, o32''⟩ V7 l7 ⟨i', j', k, ei, _, _, ej, _, _, ek, hk, hol'', hR'', hC'', hs⟩
     dsimp only at ei ej ek hol'' hR'' hC'' hs ⊢
     obtain rfl : i = i' := by omega
     obtain rfl : j = j' := by omega
     subst ek
     have L7 := View.le_trans l6 l7
     refine ⟨fun hlt3 => ?_, fun hge3 => ?_⟩
     · have hkn : k < n := by simp at hlt3; omega
       obtain ⟨d1, x, ⟨y, rfl, hy⟩, hxl, hh, hsm⟩ := ListAt.get (ListAt.le (numC.le L7) L7 g3) (t := (k : Int)) (by omega) (z := adjQ A i k) (by rw [Int.toNat_natCast]; exact rowL_get hkn _)
       obtain ⟨f1, s2, f2, f3⟩ := (h.le numC.le (View.le_trans l1 (View.le_trans L5 L7))).row (t := (k : Int)) (by omega) (row := rowL w (A k)) (by rw [Int.toNat_natCast]; exact matL_get hkn A)
       rw [hl] at f1
       obtain ⟨d2, x2, ⟨y2, rfl, hy2⟩, hxl2, hh2, hsm2⟩ := ListAt.get f3 (t := (j : Int)) (by omega) (z := A k j) (by rw [Int.toNat_natCast]; exact rowL_get hjw _)
       have z1 := hcsz i k hiw hkn
       have z2 := hA k j hkn hjw
       have z3 := nrmA_sz hA k hk i j hiw hjw
       have z4 := Cq.sz_mul (adjQ A i k) (A k j)
       refine ⟨d1, y, .inr hh, hsm, f1, s2, .inr f2, d2, y2, .inr hh2, hsm2, (Num_Mul_spec hy hy2 (by omega) (by omega)).mono fun v V8 l8 ⟨r3, hv, h3⟩ => ⟨r3, hv, ?_⟩⟩
       refine (Num_Add_spec (hs.le l8) h3 (by omega) (by omega)).mono fun v V9 l9 ⟨r4, hv, h4⟩ => ⟨r4, hv, ?_⟩
       rw [i64w (by omega) (by omega)]
       have L9 := View.le_trans l8 l9
       refine ⟨⟨i, j, k + 1, rfl, rfl, hiw, rfl, rfl, hjw, by omega, by omega, hol'', hR''.le numC.le L9, hC''.imp (numC.le L9), ?_⟩, by omega⟩
       rw [sq, Nat.zero_add]; exact h4
     · have e : k = n := by simp at hge3; omega
       subst e
       obtain ⟨s3, e3, r1', r2, r3, ⟨o3, r4, r5, r6⟩, r7⟩ := hR''.row (i := i) hiw
       rw [if_neg (by omega), if_pos rfl] at r1' r6
       rw [rowL_length] at r1'
       refine ⟨⟨by omega, by omega⟩, s3, by rw [Int.toNat_natCast, Nat.mul_one, Nat.zero_add]; exact e3, fun b3 V10 l10 _ hb3 => ?_⟩
       have hnew : V10.has (some (Addr.mk b3 0 none)) o13.val.cells.toList := rhas_block (cs := o13.val.cells.toList) (j := 0) hb3 (fun i v hv => by rw [Nat.zero_add]; exact hv) rfl
       have hrc : numC V10 o13.val.cells.toList (nrmA k A i j) := ⟨o13, rfl, hs.le l10⟩
       refine ⟨o3, _, ⟨r2, r3⟩, has2_le l10 r4, r5, .inr hnew, rfl, oneN hrc, by unfold maxLen; omega, by omega, fun _ h2 => r7 1 (by omega) h2, fun a1 c1 m1 ha => ⟨⟨by omega, by omega⟩, by rw [hol'', Int.toNat_natCast]; omega, ?_⟩⟩
       have := (hR''.le numC.le l10).app (i := i) hiw e3 (z := nrmA k A i j) rfl hrc (o' := o3) (by rw [if_neg (by omega), if_pos rfl]; exact r6.imp (numC.le l10)) ha
       rw [i64w (by omega) (by omega)]
       refine ⟨⟨i, j + 1, rfl, rfl, hiw, by omega, by omega, by simp [hol''], ?_, hC''.imp (numC.le l10)⟩, by omega⟩
       have e1 : (0 + Int.toNat (i : Int) * 1) = i := by omega
       rw [e1]
       refine this.congr fun r hr => ?_
       by_cases e : r = i
       · subst e
         simp only [if_true, Nat.lt_irrefl, if_false]
         exact rowL_push _ _
       · simp only [if_neg e]
   · have ej : j = w := by simp at hge2; omega
     subst ej
     have hR4 : RowsR 5 numC o0' V6 o32' j (fun r => if r < i + 1 then rowL j (nrmA n A r) else []) := hR'.congr fun r _ => by
      by_cases e : r < i
      · rw [if_pos e, if_pos (by omega)]
      · rw [if_neg e]
        by_cases e2 : r = i
        · subst e2; rw [if_pos rfl, if_pos (by omega)]
        · rw [if_neg e2, if_neg (by omega)]
     refine ⟨⟨i, 0, rfl, rfl, hiw, rfl, by omega, hol', hR4, ?_⟩, ?_⟩
     · rw [rowL_congr (g := fun r => if r < i then nrmB n A b r else Cq.zero) (fun r _ => by
         by_cases e : r < i
         · rw [if_pos e, if_pos e]
         · rw [if_neg e, if_neg e]; split <;> rfl)]
       exact hC'
     rintro ⟨t81, o35''⟩ V11 l11 ⟨i', k, ei, _, _, ek, hk, hol4, hR5, hC5⟩
     dsimp only at ei ek hol4 hR5 hC5 ⊢
     obtain rfl : i = i' := by omega
     subst ek
     have L11 := View.le_trans l6 l11
     refine ⟨fun hlt3 => ?_, fun hge3 => ?_⟩
     · have hkn : k < n := by simp at hlt3; omega
       obtain ⟨x0, ⟨y0, rfl, hy0⟩, hxl0, hg0⟩ := hC5.at (i := i) (z := sq (fun k => adjQ A i k * b k) 0 k) (by rw [rowL_get hiw, if_neg (by omega), if_pos rfl])
       obtain ⟨d1, x, ⟨y, rfl, hy⟩, hxl, hh, hsm⟩ := ListAt.get (ListAt.le (numC.le L11) L11 g3) (t := (k : Int)) (by omega) (z := adjQ A i k) (by rw [Int.toNat_natCast]; exact rowL_get hkn _)
       obtain ⟨d2, x2, ⟨y2, rfl, hy2⟩, hxl2, hh2, hsm2⟩ := ListAt.get (hb.le (View.le_trans l1 (View.le_trans L5 L11))) (t := (k : Int)) (by omega) (z := b k) (by rw [Int.toNat_natCast]; exact rowL_get hkn _)
       rw [hql] at d2
       have z1 := hcsz i k hiw hkn
       have z2 := hB k hkn
       have z3 := nrmB_sz hA hB k hk i hiw
       have z4 := Cq.sz_mul (adjQ A i k) (b k)
       refine ⟨⟨by omega, by omega⟩, y0, by rw [Int.toNat_natCast]; exact hg0, d1, y, .inr hh, hsm, by rw [hql]; exact d2, y2, .inr hh2, hsm2, (Num_Mul_spec hy hy2 (by omega) (by omega)).mono fun v V12 l12 ⟨r5, hv, h5⟩ => ⟨r5, hv, ?_⟩⟩
       refine (Num_Add_spec (NumAt.le l12 hy0) h5 (by omega) (by omega)).mono fun v V13 l13 ⟨r6, hv, h6⟩ => ⟨r6, hv, ⟨by omega, by omega⟩, ?_, ?_⟩
       · rw [hC5.length, rowL_length, Int.toNat_natCast]
         have e2 : i * 5 + 5 = (i + 1) * 5 := by omega
         rw [Nat.zero_add, e2]; exact Nat.mul_le_mul_right _ hiw
       · have L13 := View.le_trans l12 l13
         rw [i64w (by omega) (by omega)]
         refine ⟨⟨i, k + 1, rfl, rfl, hiw, by omega, by omega, hol4, hR5.le numC.le L13, ?_⟩, by omega⟩
         have hset := (hC5.imp (numC.le L13)).set0 (i := i) (by rw [rowL_length]; exact hiw) (lenN r6) (cellN h6)
         rw [rowL_set] at hset
         rw [Int.toNat_natCast]
         rw [rowL_congr (g := fun r => if r < i then nrmB n A b r else if r = i then sq (fun k => adjQ A i k * b k) 0 (k + 1) else Cq.zero) (fun r _ => by
          by_cases e : r = i
          · subst e; rw [if_pos rfl, if_neg (by omega), if_pos rfl, sq, Nat.zero_add]
          · rw [if_neg e, if_neg e, if_neg e])] at hset
         exact hset
     · have e : k = n := by simp at hge3; omega
       subst e
       rw [i64w (by omega) (by omega)]
       refine ⟨⟨i + 1, by omega, by omega, hol4, hR5, ?_⟩, by omega⟩
       rw [rowL_congr (g := fun r => if r < i then nrmB k A b r else if r = i then sq (fun k => adjQ A i k * b k) 0 k else Cq.zero) (fun r _ => by
        by_cases e : r < i
        · rw [if_pos e, if_pos (by omega)]
        · rw [if_neg e]
          by_cases e2 : r = i
          · subst e2; rw [if_pos rfl, if_pos (by omega)]; rfl
          · rw [if_neg e2, if_neg (by omega)])]
       exact hC5
 · have ei : i = w := by simp at hge; omega
   subst ei
   refine ⟨by decide, fun V14 l14 hpub b6 V15 l15 hb6 b7 V16 l16 hb7 => ?_⟩
   have hR2 : RowsR 5 numC o0 V5 o32 i (fun r => rowL i (nrmA n A r)) := hR.congr fun r hr => by rw [if_pos hr]
   have L16 := View.le_trans l14 (View.le_trans l15 l16)
   have hM : RowsV 5 numC V16 ⟨some ⟨b6, 0, none⟩, i, i⟩ (matL i i (nrmA n A)) := hR2.knownL numC.le hol L16 (fun b cs hb => l16 b cs (l15 b cs (hpub b cs hb))) (l16 _ _ hb6)
   rw [rowL_congr (g := nrmB n A b) (fun r hr => by rw [if_pos hr])] at hC
   have hv' : NumsAt V16 ⟨some ⟨b7, 0, none⟩, i, i⟩ (rowL i (nrmB n A b)) := ListAt.of_made hb7 (hC.imp (numC.le L16)) (by rw [rowL_length])
   rw [Int.toNat_natCast]
   have tA : ∀ r j, r < i → j < i → (nrmA n A r j).sz ≤ T := fun r j h1 h2 => by rw [hT]; exact nrmA_sz hA n (Nat.le_refl n) r j h1 h2
   have tB : ∀ r, r < i → (nrmB n A b r).sz ≤ T := fun r h1 => by rw [hT]; exact nrmB_sz hA hB n (Nat.le_refl n) r h1
   refine (SolveN_spec T hM hv' hw tA tB hS hX).mono fun v V17 l17 ⟨r7, h7⟩ => ?_
   cases e : (elim numO i (i + 1) (augN i (nrmA n A) (nrmB n A b))).2.2 with
   | none => rw [e] at h7; exact ⟨r7, 0, h7.1, r7, rfl, h7.2⟩
   | some c => rw [e] at h7; exact ⟨r7, 6, h7.1, r7, rfl, h7.2⟩

theorem axes_spec {V : View} (s : SpotV) : CallV Tryz.prog n_scan_Spot_axes #[s.val] V fun v _ => v = (Arr3_NumV.mk s.x s.y s.z).val := scan_Spot_axes_vc s V _ rfl
theorem spot_spec {V : View} (a : Arr3_NumV) : CallV Tryz.prog n_scan_spot #[a.val] V fun v _ => v = (SpotV.mk a.e0 a.e1 a.e2).val :=
 scan_spot_vc a V _ ⟨⟨by omega, by omega⟩, ⟨by omega, by omega⟩, ⟨by omega, by omega⟩, rfl⟩
theorem right1_spec {V : View} {s : SpotV} {p : P3} (h : SpotAt V s p) : CallV Tryz.prog n_scan_right_1 #[s.val] V fun v _ => v = .bool (!p.real) := by
 refine scan_right_1_vc s V _ ((Num_Real_spec h.x).mono fun v V1 l1 hv => ⟨_, hv, fun h1 => ?_, fun h1 => ?_⟩)
 · have : decide (p.x.im = 0) = false := by simpa using h1
   unfold P3.real; rw [this]; rfl
 · have e1 : decide (p.x.im = 0) = true := by simpa using h1
   refine (Num_Real_spec (h.y.le l1)).mono fun v V2 l2 hv => ⟨_, hv, fun h2 => ?_, fun h2 => ?_⟩
   · have : decide (p.y.im = 0) = false := by simpa using h2
     unfold P3.real; rw [e1, this]; rfl
   · have e2 : decide (p.y.im = 0) = true := by simpa using h2
     refine (Num_Real_spec (h.z.le (View.le_trans l1 l2))).mono fun v V3 l3 hv => ⟨_, hv, ?_⟩
     unfold P3.real; rw [e1, e2]; rfl
theorem IndexFuncSp {V : View} {s : Sl} {ps : List P3} (h : ListAt 15 spotC V s ps) (hn : ps.length ≤ 2 ^ 40) (q : Fn0) :
 CallV Tryz.prog n_slices_IndexFunc___scan_Spot_scan_Spot_ #[s.v, q.val n_scan_right_1] V fun v _ => ∃ r : Int, v = .int .i64 r ∧ (0 ≤ r ↔ ∃ p, p ∈ ps ∧ p.real = false) := by
 have hl := h.len
 refine slices_IndexFunc___scan_Spot_scan_Spot___scan_right_1_vc s q V _ (fun _ x _ => ∃ t : Nat, x.t8 = t ∧ t ≤ ps.length ∧ ∀ p, p ∈ ps.take t → p.real = true) (fun _ x _ => ps.length - x.t8.toNat) ⟨⟨0, rfl, by omega, by simp⟩, ?_⟩
 rintro ⟨t⟩ V1 l1 ⟨t', ht, htn, hi⟩
 dsimp only at ht ⊢
 subst ht
 refine ⟨fun hlt => ?_, fun hge => ?_⟩
 · simp only [decide_eq_true_eq] at hlt
   have hk : t' < ps.length := by omega
   obtain ⟨g1, x, ⟨y, rfl, hy⟩, _, hh, hs⟩ := ListAt.get (ListAt.le (spotC.le l1) l1 h) (t := (t' : Int)) (by omega) (z := ps[t']) (by simp)
   refine ⟨g1, y, hh, hs, (right1_spec hy).mono fun v V2 l2 hv => ⟨_, hv, fun hr => ⟨_, rfl, ?_⟩, fun hr => ?_⟩⟩
   · have e : ps[t'].real = false := by simpa using hr
     exact ⟨fun _ => ⟨_, List.getElem_mem hk, e⟩, fun _ => by omega⟩
   · have e : ps[t'].real = true := by simpa using hr
     rw [i64w (by omega) (by omega)]
     refine ⟨⟨t' + 1, by omega, by omega, fun p hp => ?_⟩, by omega⟩
     rw [List.take_add_one, List.getElem?_eq_getElem hk] at hp
     simp only [Option.toList_some, List.mem_append, List.mem_singleton] at hp
     rcases hp with hp | hp
     · exact hi p hp
     · subst hp; exact e
 · have e : t' = ps.length := by simp at hge; omega
   subst e
   rw [List.take_length] at hi
   exact ⟨-1, rfl, fun h => absurd h (by omega), fun ⟨p, h1, h2⟩ => by rw [hi p h1] at h2; simp at h2⟩
theorem right_spec {V : View} {s : Sl} {ps : List P3} (h : ListAt 15 spotC V s ps) (hn : ps.length ≤ 2 ^ 40) : CallV Tryz.prog n_scan_right #[s.v] V fun v _ => v = .bool (ps.all P3.real) := by
 refine scan_right_vc s V _ ((slices_ContainsFunc___scan_Spot_scan_Spot___scan_right_1_vc s ⟨⟩ V _ ((IndexFuncSp h hn _).mono fun v V1 l1 ⟨r, hv, hr⟩ => ⟨r, hv, ?_⟩) : CallV Tryz.prog n_slices_ContainsFunc___scan_Spot_scan_Spot_ #[s.v, (Fn0.mk).val n_scan_right_1] V fun v _ => v = .bool (!ps.all P3.real)).mono fun v V1 l1 hv => ⟨_, hv, ?_⟩)
 · congr 1
   rw [Bool.eq_iff_iff, decide_eq_true_eq, ge_iff_le, hr]
   simp only [Bool.not_eq_true', List.all_eq_false, Bool.not_eq_true]
 · rw [Bool.not_not]
theorem right_one {V : View} {s : SpotV} {p : P3} (h : SpotAt V s p) {b : Nat} (hb : V b = some s.val.cells) : CallV Tryz.prog n_scan_right #[(Sl.mk (some (Addr.mk b 0 none)) 1 1).v] V fun v _ => v = .bool p.real := by
 refine (right_spec (ps := [p]) (ListAt.of_block (o := s.val.cells.toList) (o' := []) (b := b) (fun _ => by simpa using hb) (Cells.one rfl ⟨s, rfl, h⟩) rfl (Nat.le_refl _) (fun _ => rfl)) (by show 1 ≤ 2 ^ 40; decide)).mono fun v V1 _ hv => ?_
 rw [hv]; simp
theorem Frame_right_spec {V : View} {s : FrameV} {f : F3} (h : FrameAt V s f) : CallV Tryz.prog n_scan_Frame_right #[s.val] V fun v _ => v = .bool f.real := by
 refine scan_Frame_right_vc s V _ fun b1 V1 l1 _ hb1 => ?_
 have hC : Cells 15 spotC V1 (s.o.val.cells.toList ++ (s.u.val.cells.toList ++ s.v.val.cells.toList)) [f.o, f.u, f.v] :=
  ⟨_, _, rfl, rfl, ⟨s.o, rfl, h.o.le l1⟩, _, _, rfl, rfl, ⟨s.u, rfl, h.u.le l1⟩, _, [], by simp, rfl, ⟨s.v, rfl, h.v.le l1⟩, rfl⟩
 refine (right_spec (ps := [f.o, f.u, f.v]) (ListAt.of_block (o := s.o.val.cells.toList ++ (s.u.val.cells.toList ++ s.v.val.cells.toList)) (o' := []) (b := b1) (fun _ => by rw [List.append_nil]; exact hb1) hC rfl (Nat.le_refl _) (fun _ => rfl)) (by show 3 ≤ 2 ^ 40; decide)).mono fun v V2 l2 hv => ⟨_, hv, ?_⟩
 simp [F3.real]
theorem dot_spec {V : View} {a b : SpotV} {p q : P3} {S T : Nat} (hp : SpotAt V a p) (hq : SpotAt V b q) (sp : p.szle S) (sq : q.szle T) (hS : S + T ≤ 2 ^ 37) :
 CallV Tryz.prog n_scan_dot #[a.val, b.val] V fun v V' => ∃ r : NumV, v = r.val ∧ NumAt V' r (dotP p q) := by
 obtain ⟨s1, s2, s3⟩ := sp
 obtain ⟨t1, t2, t3⟩ := sq
 have a1 := Cq.sz_mul p.x q.x; have a2 := Cq.sz_mul p.y q.y; have a3 := Cq.sz_mul p.z q.z
 have b1 := Cq.sz_add (p.x * q.x) (p.y * q.y)
 refine scan_dot_vc a b V _ ((Num_Mul_spec hp.x hq.x (by omega) (by omega)).mono fun v V1 l1 ⟨r1, hv, h1⟩ => ⟨r1, hv, ?_⟩)
 refine (Num_Mul_spec (hp.y.le l1) (hq.y.le l1) (by omega) (by omega)).mono fun v V2 l2 ⟨r2, hv, h2⟩ => ⟨r2, hv, ?_⟩
 refine (Num_Add_spec (h1.le l2) h2 (by omega) (by omega)).mono fun v V3 l3 ⟨r3, hv, h3⟩ => ⟨r3, hv, ?_⟩
 have L := View.le_trans l1 (View.le_trans l2 l3)
 refine (Num_Mul_spec (hp.z.le L) (hq.z.le L) (by omega) (by omega)).mono fun v V4 l4 ⟨r4, hv, h4⟩ => ⟨r4, hv, ?_⟩
 exact (Num_Add_spec (h3.le l4) h4 (by omega) (by omega)).mono fun v V5 l5 ⟨r5, hv, h5⟩ => ⟨r5, hv, r5, rfl, h5⟩
theorem along_spec {V : View} {a b : SpotV} {n : NumV} {p q : P3} {f : Cq} {S T F : Nat} (hp : SpotAt V a p) (hf : NumAt V n f) (hq : SpotAt V b q) (sp : p.szle S) (sf : f.sz ≤ F) (sq : q.szle T) (hS : S + T + F ≤ 2 ^ 38) :
 CallV Tryz.prog n_scan_along #[a.val, n.val, b.val] V fun v V' => ∃ r : SpotV, v = r.val ∧ SpotAt V' r (alongP p f q) := by
 obtain ⟨s1, s2, s3⟩ := sp
 obtain ⟨t1, t2, t3⟩ := sq
 let ps : List Cq := [p.x, p.y, p.z]
 let qs : List Cq := [q.x, q.y, q.z]
 let g : Nat → Nat → Cq := fun t i => if i < t then nth ps i + f * nth qs i else nth ps i
 have szp : ∀ i, i < 3 → (nth ps i).sz ≤ S := fun i hi => by
  have : i = 0 ∨ i = 1 ∨ i = 2 := by omega
  rcases this with rfl | rfl | rfl
  · exact s1
  · exact s2
  · exact s3
 have szq : ∀ i, i < 3 → (nth qs i).sz ≤ T := fun i hi => by
  have : i = 0 ∨ i = 1 ∨ i = 2 := by omega
  rcases this with rfl | rfl | rfl
  · exact t1
  · exact t2
  · exact t3
 refine scan_along_vc a n b V _ (fun _ x V' => ∃ t : Nat, x.t14 = t ∧ t ≤ 3 ∧ Cells 5 numC V' x.o7 (rowL 3 (g t))) (fun _ x _ => 3 - x.t14.toNat) ?_
 refine (axes_spec a).mono fun v V1 l1 hv => ⟨_, hv, (axes_spec b).mono fun v V2 l2 hv => ⟨_, hv, ⟨0, rfl, by omega, ?_⟩, ?_⟩⟩
 · have L := View.le_trans l1 l2
   exact cells3 (hp.x.le L) (hp.y.le L) (hp.z.le L)
 rintro ⟨t14, o6, o7⟩ V3 l3 ⟨t, ht, h3, hC⟩
 dsimp only at ht hC ⊢
 subst ht
 have L3 := View.le_trans l1 (View.le_trans l2 l3)
 refine ⟨fun hlt => ?_, fun hge => ?_⟩
 · have hk : t < 3 := by simp at hlt; omega
   obtain ⟨x, ⟨y, rfl, hy⟩, hxl, hg⟩ := hC.at (i := t) (z := nth ps t) (by rw [rowL_get hk]; show some (if t < t then _ else _) = _; rw [if_neg (by omega)])
   have hQ : Cells 5 numC V3 _ qs := cells3 (hq.x.le L3) (hq.y.le L3) (hq.z.le L3)
   obtain ⟨x2, ⟨y2, rfl, hy2⟩, hxl2, hg2⟩ := hQ.at (i := t) (z := nth qs t) (nth_get (by show t < 3; exact hk))
   have z1 := szp t hk
   have z2 := szq t hk
   have z3 := Cq.sz_mul f (nth qs t)
   refine ⟨⟨by omega, by omega⟩, y, by rw [Int.toNat_natCast]; exact hg, ⟨by omega, by omega⟩, y2, by rw [Int.toNat_natCast]; exact hg2, ?_⟩
   refine (Num_Mul_spec (hf.le L3) hy2 (by omega) (by omega)).mono fun v V4 l4 ⟨r3, hv, h3'⟩ => ⟨r3, hv, ?_⟩
   refine (Num_Add_spec (NumAt.le l4 hy) h3' (by omega) (by omega)).mono fun v V5 l5 ⟨r4, hv, h4⟩ => ⟨r4, hv, ⟨by omega, by omega⟩, ?_, ?_⟩
   · rw [hC.length, rowL_length, Int.toNat_natCast]; omega
   · rw [i64w (by omega) (by omega)]
     refine ⟨⟨t + 1, by omega, by omega, ?_⟩, by omega⟩
     have hset := (hC.imp (numC.le (View.le_trans l4 l5))).set0 (i := t) (by rw [rowL_length]; exact hk) (lenN r4) (cellN h4)
     rw [rowL_set] at hset
     rw [Int.toNat_natCast]
     rw [rowL_congr (g := g (t + 1)) (fun k _ => by
      show (if k = t then nth ps t + f * nth qs t else if k < t then nth ps k + f * nth qs k else nth ps k) = if k < t + 1 then _ else _
      by_cases e : k = t
      · subst e; rw [if_pos rfl, if_pos (by omega)]
      · rw [if_neg e]
        by_cases e2 : k < t
        · rw [if_pos e2, if_pos (by omega)]
        · rw [if_neg e2, if_neg (by omega)])] at hset
     exact hset
 · have e : t = 3 := by simp at hge; omega
   subst e
   obtain ⟨c, ho, h1, h2, h3⟩ := cells3_of (show Cells 5 numC V3 o7 [(alongP p f q).x, (alongP p f q).y, (alongP p f q).z] from hC)
   refine ⟨c, by rw [ho]; rfl, (spot_spec c).mono fun v V6 l6 hv => ⟨_, hv, _, rfl, h1.le l6, h2.le l6, h3.le l6⟩⟩
theorem less_spec {V : View} {a b : SpotV} {p q : P3} {S T : Nat} (hp : SpotAt V a p) (hq : SpotAt V b q) (sp : p.szle S) (sq : q.szle T) (hS : S + T ≤ 2 ^ 37) :
 CallV Tryz.prog n_scan_less #[a.val, b.val] V fun v V' => ∃ r : SpotV, v = r.val ∧ SpotAt V' r (lessP p q) := by
 refine scan_less_vc a b V _ ((num_Int_spec (by omega) (by omega)).mono fun v V1 l1 ⟨r1, hv, h1⟩ => ⟨r1, hv, ?_⟩)
 exact (along_spec (hp.le l1) h1 (hq.le l1) sp minus1_sz sq (by omega)).mono fun v V2 l2 ⟨r2, hv, h2⟩ => ⟨r2, hv, r2, rfl, h2⟩
theorem whole_spec {V : View} {n : Int} (h0 : -9223372036854775808 ≤ n) (h1 : n ≤ 9223372036854775807) : CallV Tryz.prog n_scan_whole #[.int .i64 n] V fun v V' => ∃ r : NumV, v = r.val ∧ NumAt V' r ⟨(n : Rat), 0⟩ :=
 scan_whole_vc n V _ ((num_Int_spec h0 h1).mono fun v V1 l1 ⟨r1, hv, h1⟩ => ⟨r1, hv, r1, rfl, h1⟩)
theorem place_spec {V : View} {s : FrameV} {a b : NumV} {f : F3} {i j : Cq} {S T : Nat} (h : FrameAt V s f) (hi : NumAt V a i) (hj : NumAt V b j) (sf : f.szle S) (si : i.sz ≤ T) (sj : j.sz ≤ T) (hS : 3 * S + 2 * T ≤ 2 ^ 37) :
 CallV Tryz.prog n_scan_Frame_place #[s.val, a.val, b.val] V fun v V' => ∃ r : SpotV, v = r.val ∧ SpotAt V' r (placeP f i j) := by
 refine scan_Frame_place_vc s a b V _ ((along_spec h.o hi h.u sf.o si sf.u (by omega)).mono fun v V1 l1 ⟨r1, hv, h1⟩ => ⟨r1, hv, ?_⟩)
 exact (along_spec h1 (hj.le l1) (h.v.le l1) (alongP_sz sf.o sf.u si) sj sf.v (by omega)).mono fun v V2 l2 ⟨r2, hv, h2⟩ => ⟨r2, hv, r2, rfl, h2⟩

theorem Skew_spec {V : View} {s : FrameV} {f : F3} {S : Nat} (h : FrameAt V s f) (sf : f.szle S) (hS : S ≤ 2 ^ 36) :
 CallV Tryz.prog n_scan_Skew #[s.val] V fun v V' => ∃ r : NumV, v = .tuple #[r.val, .int .i64 (if f.real = true then 0 else 1)] ∧ NumAt V' r (if f.real = true then dotP f.u f.v else Cq.zero) := by
 refine scan_Skew_vc s V _ ((Frame_right_spec h).mono fun v V1 l1 hv => ⟨_, hv, fun hr => ?_, fun hr => ?_⟩)
 · have e : f.real = false := by simpa using hr
   rw [e]; exact ⟨zN, rfl, NumAt.zero V1⟩
 · have e : f.real = true := by simpa using hr
   rw [e]
   exact (dot_spec (h.u.le l1) (h.v.le l1) sf.u sf.v (by omega)).mono fun v V2 l2 ⟨r2, hv, h2⟩ => ⟨r2, hv, r2, rfl, h2⟩
def straightF (f : F3) : F3 := ⟨f.o, f.u, alongP f.v (-((dotP f.u f.v).div (dotP f.u f.u))) f.u⟩
def straightE (f : F3) : Int := if f.real = true then (if dotP f.u f.u = Cq.zero then 3 else 0) else 1
theorem Straight_spec {V : View} {s : FrameV} {f : F3} {S : Nat} (h : FrameAt V s f) (sf : f.szle S) (hS : S ≤ 2 ^ 30) :
 CallV Tryz.prog n_scan_Straight #[s.val] V fun v V' => ∃ r : FrameV, v = .tuple #[r.val, .int .i64 (straightE f)] ∧ FrameAt V' r (if straightE f = 0 then straightF f else F3.zero) := by
 have z1 := dotP_sz sf.u sf.v
 have z2 := dotP_sz sf.u sf.u
 unfold straightE
 refine scan_Straight_vc s V _ ((Frame_right_spec h).mono fun v V1 l1 hv => ⟨_, hv, fun hr => ?_, fun hr => ?_⟩)
 · have e : f.real = false := by simpa using hr
   rw [e]; exact ⟨⟨⟨zN, zN, zN⟩, ⟨zN, zN, zN⟩, ⟨zN, zN, zN⟩⟩, rfl, FrameAt.zero V1⟩
 · have e : f.real = true := by simpa using hr
   rw [e]
   refine (dot_spec (h.u.le l1) (h.v.le l1) sf.u sf.v (by omega)).mono fun v V2 l2 ⟨r2, hv, h2⟩ => ⟨r2, hv, ?_⟩
   have L2 := View.le_trans l1 l2
   refine (dot_spec (h.u.le L2) (h.u.le L2) sf.u sf.u (by omega)).mono fun v V3 l3 ⟨r3, hv, h3⟩ => ⟨r3, hv, ?_⟩
   refine (Num_Div_spec (h2.le l3) h3 (by omega) (by omega)).mono fun v V4 l4 ⟨r4, e4, hv, hz, hnz⟩ => ⟨r4, e4, hv, fun hne => ?_, fun heq => ?_⟩
   · have hd : dotP f.u f.u = Cq.zero := by
       by_cases g : dotP f.u f.u = Cq.zero
       · exact g
       · have := (hnz g).1; subst this; simp at hne
     rw [if_pos rfl, if_pos hd]
     exact ⟨⟨⟨zN, zN, zN⟩, ⟨zN, zN, zN⟩, ⟨zN, zN, zN⟩⟩, rfl, FrameAt.zero V4⟩
   · have hd : dotP f.u f.u ≠ Cq.zero := fun g => by have := (hz g).1; subst this; simp at heq
     rw [if_pos rfl, if_neg hd]
     obtain ⟨_, h4⟩ := hnz hd
     have z3 : ((dotP f.u f.v).div (dotP f.u f.u)).sz ≤ 4 * (6 * S + 5) + 8 := div_sz (by omega) (by omega)
     refine (Num_Neg_spec h4).mono fun v V5 l5 ⟨r6, hv, h6⟩ => ⟨r6, hv, ?_⟩
     have L5 := View.le_trans L2 (View.le_trans l3 (View.le_trans l4 l5))
     refine (along_spec (h.v.le L5) h6 (h.u.le L5) sf.v (by rw [Cq.sz_neg]; exact z3) sf.u (by omega)).mono fun v V6 l6 ⟨r7, hv, h7⟩ => ⟨r7, hv, ⟨s.o, s.u, r7⟩, rfl, ?_⟩
     have L6 := View.le_trans L5 l6
     exact ⟨h.o.le L6, h.u.le L6, h7⟩
def placeOk (f : F3) (i j : Cq) : Bool := f.real && (decide (i.im = 0) && decide (j.im = 0))
theorem Place_spec {V : View} {s : FrameV} {a b : NumV} {f : F3} {i j : Cq} {S T : Nat} (h : FrameAt V s f) (hi : NumAt V a i) (hj : NumAt V b j) (sf : f.szle S) (si : i.sz ≤ T) (sj : j.sz ≤ T) (hS : 3 * S + 2 * T ≤ 2 ^ 37) :
 CallV Tryz.prog n_scan_Place #[s.val, a.val, b.val] V fun v V' => ∃ r : SpotV, v = .tuple #[r.val, .int .i64 (if placeOk f i j = true then 0 else 1)] ∧ SpotAt V' r (if placeOk f i j = true then placeP f i j else P3.zero) := by
 unfold placeOk
 refine scan_Place_vc s a b V _ ((Frame_right_spec h).mono fun v V1 l1 hv => ⟨_, hv, fun hr => ?_, fun hr => ?_⟩)
 · have e : f.real = false := by simpa using hr
   rw [e]; exact ⟨⟨zN, zN, zN⟩, rfl, SpotAt.zero V1⟩
 · have e : f.real = true := by simpa using hr
   rw [e]
   refine (Num_Real_spec (hi.le l1)).mono fun v V2 l2 hv => ⟨_, hv, fun hr => ?_, fun hr => ?_⟩
   · have e : decide (i.im = 0) = false := by simpa using hr
     rw [e]; exact ⟨⟨zN, zN, zN⟩, rfl, SpotAt.zero V2⟩
   · have e : decide (i.im = 0) = true := by simpa using hr
     rw [e]
     have L2 := View.le_trans l1 l2
     refine (Num_Real_spec (hj.le L2)).mono fun v V3 l3 hv => ⟨_, hv, fun hr => ?_, fun hr => ?_⟩
     · have e : decide (j.im = 0) = false := by simpa using hr
       rw [e]; exact ⟨⟨zN, zN, zN⟩, rfl, SpotAt.zero V3⟩
     · have e : decide (j.im = 0) = true := by simpa using hr
       rw [e]
       have L3 := View.le_trans L2 l3
       exact (place_spec (h.le L3) (hi.le L3) (hj.le L3) sf si sj hS).mono fun v V4 l4 ⟨r4, hv, h4⟩ => ⟨r4, hv, r4, rfl, h4⟩
def posA (f : F3) : Nat → Nat → Cq := fun i j => if i = 0 then (if j = 0 then dotP f.u f.u else dotP f.u f.v) else (if j = 0 then dotP f.u f.v else dotP f.v f.v)
def posB (f : F3) (d : P3) : Nat → Cq := fun i => if i = 0 then dotP f.u d else dotP f.v d
def posDet (f : F3) : Cq := dotP f.u f.u * dotP f.v f.v - dotP f.u f.v * dotP f.u f.v
def posI (f : F3) (d : P3) : Cq := (dotP f.u d * dotP f.v f.v - dotP f.v d * dotP f.u f.v).div (posDet f)
def posJ (f : F3) (d : P3) : Cq := (dotP f.u f.u * dotP f.v d - dotP f.u f.v * dotP f.u d).div (posDet f)
theorem pos_det (f : F3) (d : P3) : detD 2 (augN 2 (posA f) (posB f d)) = posDet f := rfl
def posOff (f : F3) (s : P3) : Cq := dotP (lessP s (placeP f (posI f (lessP s f.o)) (posJ f (lessP s f.o)))) (lessP s (placeP f (posI f (lessP s f.o)) (posJ f (lessP s f.o))))
def posE (f : F3) (s : P3) : Int := if (f.real && s.real) = true then (if posDet f = Cq.zero then 6 else 0) else 1
theorem bounds2 {S : Nat} (h : S ≤ 2 ^ 12) : (12 * S + 30 + 2) * 6 ^ 2 + 2 * ((12 * S + 30 + 2) * 6 ^ 2 + Xb ((12 * S + 30 + 2) * 6 ^ 2) 2 + 2) ≤ 2 ^ 36 ∧ Xb ((12 * S + 30 + 2) * 6 ^ 2) 2 ≤ 2 ^ 26 := by
 have e : Xb ((12 * S + 30 + 2) * 6 ^ 2) 2 = 4 * ((12 * S + 30 + 2) * 36 + 1 * ((12 * S + 30 + 2) * 36 + (4 * ((12 * S + 30 + 2) * 36) + 8) + 2)) + 8 := by
  simp only [Xb]; omega
 rw [e]; omega
theorem off_sz {q : P3} {S X : Nat} (hS : S ≤ 2 ^ 12) (hX : X ≤ 2 ^ 26) (h : q.szle (S + (3 * S + 2 * X + 4) + 4)) : (dotP q q).sz ≤ 2 ^ 30 := by
 have := dotP_sz h h
 omega
theorem Position_spec {V : View} {s : FrameV} {a : SpotV} {f : F3} {p : P3} {S : Nat} (h : FrameAt V s f) (ha : SpotAt V a p) (sf : f.szle S) (sp : p.szle S) (hS : S ≤ 2 ^ 12) :
 CallV Tryz.prog n_scan_Position #[s.val, a.val] V fun v V' => ∃ i j o : NumV, v = .tuple #[i.val, j.val, o.val, .int .i64 (posE f p)] ∧ NumAt V' i (if posE f p = 0 then posI f (lessP p f.o) else Cq.zero) ∧
  NumAt V' j (if posE f p = 0 then posJ f (lessP p f.o) else Cq.zero) ∧ NumAt V' o (if posE f p = 0 then posOff f p else Cq.zero) ∧
  (posE f p = 0 → (posI f (lessP p f.o)).sz ≤ 2 ^ 26 ∧ (posJ f (lessP p f.o)).sz ≤ 2 ^ 26 ∧ (posOff f p).sz ≤ 2 ^ 30) := by
 have sd := lessP_sz sp sf.o
 have z1 := dotP_sz sf.u sf.u
 have z2 := dotP_sz sf.u sf.v
 have z3 := dotP_sz sf.v sf.v
 have z4 := dotP_sz sf.u sd
 have z5 := dotP_sz sf.v sd
 obtain ⟨b1, b2⟩ := bounds2 hS
 have nil : ∀ V' : View, NumAt V' zN Cq.zero := NumAt.zero
 unfold posE
 refine scan_Position_vc s a V _ ((Frame_right_spec h).mono fun v V1 l1 hv => ⟨_, hv, fun hr => ?_, fun hr => ?_⟩)
 · have e : f.real = false := by simpa using hr
   rw [e]; exact ⟨zN, zN, zN, rfl, nil _, nil _, nil _, fun h => by simp at h⟩
 have e : f.real = true := by simpa using hr
 rw [e]
 intro b1' V2 l2 _ hb1
 have L2 := View.le_trans l1 l2
 refine (right_one (ha.le L2) hb1).mono fun v V3 l3 hv => ⟨_, hv, fun hr => ?_, fun hr => ?_⟩
 · have e : p.real = false := by simpa using hr
   rw [e]; exact ⟨zN, zN, zN, rfl, nil _, nil _, nil _, fun h => by simp at h⟩
 have e : p.real = true := by simpa using hr
 rw [e]
 have L3 := View.le_trans L2 l3
 refine (less_spec (ha.le L3) (h.o.le L3) sp sf.o (by omega)).mono fun v V4 l4 ⟨r3, hv, h3⟩ => ⟨r3, hv, ?_⟩
 have L4 := View.le_trans L3 l4
 refine (dot_spec (h.u.le L4) (h.u.le L4) sf.u sf.u (by omega)).mono fun v V5 l5 ⟨r4, hv, h4⟩ => ⟨r4, hv, ?_⟩
 have L5 := View.le_trans L4 l5
 refine (dot_spec (h.u.le L5) (h.v.le L5) sf.u sf.v (by omega)).mono fun v V6 l6 ⟨r5, hv, h5⟩ => ⟨r5, hv, ?_⟩
 have L6 := View.le_trans L5 l6
 refine (dot_spec (h.u.le L6) (h.v.le L6) sf.u sf.v (by omega)).mono fun v V7 l7 ⟨r6, hv, h6⟩ => ⟨r6, hv, ?_⟩
 have L7 := View.le_trans L6 l7
 refine (dot_spec (h.v.le L7) (h.v.le L7) sf.v sf.v (by omega)).mono fun v V8 l8 ⟨r7, hv, h7⟩ => ⟨r7, hv, ?_⟩
 have L8 := View.le_trans L7 l8
 have M4 := View.le_trans l5 (View.le_trans l6 (View.le_trans l7 l8))
 refine (dot_spec (h.u.le L8) (h3.le M4) sf.u sd (by omega)).mono fun v V9 l9 ⟨r8, hv, h8⟩ => ⟨r8, hv, ?_⟩
 have L9 := View.le_trans L8 l9
 refine (dot_spec (h.v.le L9) (h3.le (View.le_trans M4 l9)) sf.v sd (by omega)).mono fun v V10 l10 ⟨r9, hv, h9⟩ => ⟨r9, hv, ?_⟩
 intro c2 V11 l11 _ hc2 c3 V12 l12 _ hc3 c4 V13 l13 _ hc4 c5 V14 l14 _ hc5
 have K10 := View.le_trans l11 (View.le_trans l12 (View.le_trans l13 l14))
 have K9 := View.le_trans l10 K10
 have K8 := View.le_trans l9 K9
 have K7 := View.le_trans l8 K8
 have K6 := View.le_trans l7 K7
 have K5 := View.le_trans l6 K6
 have hrow0 : ListAt 5 numC V14 ⟨some ⟨c2, 0, none⟩, 2, 2⟩ (rowL 2 (posA f 0)) :=
  ListAt.of_block (o := r4.val.cells.toList ++ (r5.val.cells.toList ++ [])) (o' := []) (b := c2) (fun _ => by rw [List.append_nil]; exact View.le_trans l12 (View.le_trans l13 l14) _ _ hc2)
   (show Cells 5 numC V14 _ [dotP f.u f.u, dotP f.u f.v] from ⟨_, _, rfl, rfl, ⟨r4, rfl, h4.le K5⟩, _, _, rfl, rfl, ⟨r5, rfl, h5.le K6⟩, rfl⟩) rfl (Nat.le_refl _) (fun _ => rfl)
 have hrow1 : ListAt 5 numC V14 ⟨some ⟨c3, 0, none⟩, 2, 2⟩ (rowL 2 (posA f 1)) :=
  ListAt.of_block (o := r6.val.cells.toList ++ (r7.val.cells.toList ++ [])) (o' := []) (b := c3) (fun _ => by rw [List.append_nil]; exact View.le_trans l13 l14 _ _ hc3)
   (show Cells 5 numC V14 _ [dotP f.u f.v, dotP f.v f.v] from ⟨_, _, rfl, rfl, ⟨r6, rfl, h6.le K7⟩, _, _, rfl, rfl, ⟨r7, rfl, h7.le K8⟩, rfl⟩) rfl (Nat.le_refl _) (fun _ => rfl)
 have hM : RowsV 5 numC V14 ⟨some ⟨c4, 0, none⟩, 2, 2⟩ (matL 2 2 (posA f)) :=
  ListAt.of_block (o := [Value.slice (some ⟨c2, 0, none⟩) 2 2, Value.slice (some ⟨c3, 0, none⟩) 2 2]) (o' := []) (b := c4) (fun _ => by rw [List.append_nil]; exact l14 _ _ hc4)
   (show Cells 1 (fun V x row => ∃ s : Sl, x = [s.v] ∧ ListAt 5 numC V s row) V14 _ [rowL 2 (posA f 0), rowL 2 (posA f 1)] from ⟨[_], [_], rfl, rfl, ⟨_, rfl, hrow0⟩, [_], [], rfl, rfl, ⟨_, rfl, hrow1⟩, rfl⟩) rfl (Nat.le_refl _) (fun _ => rfl)
 have hb : NumsAt V14 ⟨some ⟨c5, 0, none⟩, 2, 2⟩ (rowL 2 (posB f (lessP p f.o))) :=
  ListAt.of_block (o := r8.val.cells.toList ++ (r9.val.cells.toList ++ [])) (o' := []) (b := c5) (fun _ => by rw [List.append_nil]; exact hc5)
   (show Cells 5 numC V14 _ [dotP f.u (lessP p f.o), dotP f.v (lessP p f.o)] from ⟨_, _, rfl, rfl, ⟨r8, rfl, h8.le K9⟩, _, _, rfl, rfl, ⟨r9, rfl, h9.le K10⟩, rfl⟩) rfl (Nat.le_refl _) (fun _ => rfl)
 have sA : ∀ i j, i < 2 → j < 2 → (posA f i j).sz ≤ 12 * S + 30 := fun i j _ _ => by
  unfold posA; split <;> split <;> omega
 have sB : ∀ i, i < 2 → (posB f (lessP p f.o) i).sz ≤ 12 * S + 30 := fun i _ => by
  unfold posB; split <;> omega
 refine (SolveN_spec (12 * S + 30) hM hb (by omega) sA sB b1 (by omega)).mono fun v V15 l15 ⟨r10, h10⟩ => ?_
 have hiff := elim_det (n := 2) (w := 3) (by omega) (by omega) (by omega) (augN 2 (posA f) (posB f (lessP p f.o)))
 rw [pos_det] at hiff
 cases hst : (elim numO 2 3 (augN 2 (posA f) (posB f (lessP p f.o)))).2.2 with
 | some c =>
   rw [show (elim numO 2 (2 + 1) (augN 2 (posA f) (posB f (lessP p f.o)))).2.2 = some c from hst] at h10
   obtain ⟨hv, hr⟩ := h10
   have hd : posDet f = Cq.zero := Classical.byContradiction fun g => by rw [hiff.2 g] at hst; simp at hst
   refine ⟨r10, 6, hv, fun _ => ?_, fun hf => by simp at hf⟩
   rw [if_pos (show (true && true) = true from rfl), if_pos hd]
   exact ⟨zN, zN, zN, rfl, nil _, nil _, nil _, fun h => by simp at h⟩
 | none =>
   rw [show (elim numO 2 (2 + 1) (augN 2 (posA f) (posB f (lessP p f.o)))).2.2 = none from hst] at h10
   obtain ⟨hv, hx, hsz⟩ := h10
   have hd : posDet f ≠ Cq.zero := hiff.1 hst
   obtain ⟨c1, c2'⟩ := cramer2 (A := augN 2 (posA f) (posB f (lessP p f.o))) (by rw [pos_det]; exact hd)
   have eI : backF numO Cq.zero (elim numO 2 (2 + 1) (augN 2 (posA f) (posB f (lessP p f.o)))).1 2 2 0 = posI f (lessP p f.o) := c1
   have eJ : backF numO Cq.zero (elim numO 2 (2 + 1) (augN 2 (posA f) (posB f (lessP p f.o)))).1 2 2 1 = posJ f (lessP p f.o) := c2'
   refine ⟨r10, 0, hv, fun hf => by simp at hf, fun _ => ?_⟩
   rw [if_pos (show (true && true) = true from rfl), if_neg hd]
   have hx0 : ∀ {V' : View}, View.le V15 V' → _ := fun {V'} hle => (hx.le hle).get (t := (0 : Int)) (by omega) (by rw [rowL_length]; decide)
   have hx1 : ∀ {V' : View}, View.le V15 V' → _ := fun {V'} hle => (hx.le hle).get (t := (1 : Int)) (by omega) (by rw [rowL_length]; decide)
   have n0 : nth (rowL 2 (backF numO Cq.zero (elim numO 2 (2 + 1) (augN 2 (posA f) (posB f (lessP p f.o)))).1 2 2)) (Int.toNat 0) = posI f (lessP p f.o) := eI
   have n1 : nth (rowL 2 (backF numO Cq.zero (elim numO 2 (2 + 1) (augN 2 (posA f) (posB f (lessP p f.o)))).1 2 2)) (Int.toNat 1) = posJ f (lessP p f.o) := eJ
   have zI : (posI f (lessP p f.o)).sz ≤ 2 ^ 26 := by have := hsz 0 (by omega); rw [eI] at this; omega
   have zJ : (posJ f (lessP p f.o)).sz ≤ 2 ^ 26 := by have := hsz 1 (by omega); rw [eJ] at this; omega
   obtain ⟨d0, x1, g1, k1, m1⟩ := hx0 (View.le_refl V15)
   obtain ⟨d1, x2, g2, k2, m2⟩ := hx1 (View.le_refl V15)
   rw [n0] at m1
   rw [n1] at m2
   have L15 := View.le_trans L8 (View.le_trans K8 l15)
   refine ⟨d0, x1, g1, k1, d1, x2, g2, k2, (place_spec (h.le L15) m1 m2 sf zI zJ (by omega)).mono fun v V16 l16 ⟨r12, hv, h12⟩ => ⟨r12, hv, ?_⟩⟩
   have sp2 := placeP_sz sf zI zJ
   refine (less_spec (ha.le (View.le_trans L15 l16)) h12 sp sp2 (by omega)).mono fun v V17 l17 ⟨r13, hv, h13⟩ => ⟨r13, hv, ?_⟩
   have sl := lessP_sz sp sp2
   have L17 := View.le_trans l16 l17
   obtain ⟨d0, x3, g3, k3, m3⟩ := hx0 L17
   obtain ⟨d1, x4, g4, k4, m4⟩ := hx1 L17
   rw [n0] at m3
   rw [n1] at m4
   refine ⟨d0, x3, g3, k3, d1, x4, g4, k4, (dot_spec h13 h13 sl sl (by omega)).mono fun v V18 l18 ⟨r14, hv, h14⟩ => ⟨r14, hv, x3, x4, r14, rfl, m3.le l18, m4.le l18, h14, fun _ => ⟨zI, zJ, ?_⟩⟩⟩
   exact off_sz (X := 2 ^ 26) hS (Nat.le_refl _) sl

structure Mk where
 i : Int
 j : Int
 p : P3
def Mk.in64 (m : Mk) : Prop := (-9223372036854775808 ≤ m.i ∧ m.i ≤ 9223372036854775807) ∧ (-9223372036854775808 ≤ m.j ∧ m.j ≤ 9223372036854775807)
structure MarkAt (V : View) (s : MarkV) (m : Mk) : Prop where
 i : s.i = m.i
 j : s.j = m.j
 p : SpotAt V s.at_ m.p
def markC (V : View) (x : List Value) (m : Mk) : Prop := ∃ s : MarkV, x = s.val.cells.toList ∧ MarkAt V s m
theorem markC.le {V V' : View} (hle : V.le V') (x : List Value) (m : Mk) (h : markC V x m) : markC V' x m := by
 obtain ⟨s, e, h1, h2, h3⟩ := h; exact ⟨s, e, h1, h2, h3.le hle⟩
def MarksAt (V : View) (s : Sl) (ms : List Mk) : Prop := ListAt 17 markC V s ms
theorem MarksAt.le {V V' : View} (hle : V.le V') {s : Sl} {ms : List Mk} (h : MarksAt V s ms) : MarksAt V' s ms := ListAt.le (markC.le hle) hle h
def intQ (n : Int) : Cq := ⟨(n : Rat), 0⟩
theorem intQ_sz {n : Int} (h : -9223372036854775808 ≤ n ∧ n ≤ 9223372036854775807) : (intQ n).sz ≤ 64 := by
 refine (Rep.ofInt n).sz (k := 64) ?_ (by decide) (by decide)
 exact bl_le_of_lt (by omega)
def axisQ (p : P3) (a : Nat) : Cq := if a = 0 then p.x else if a = 1 then p.y else p.z
def mkD : Mk := ⟨0, 0, P3.zero⟩
def fitA (ms : List Mk) : Nat → Nat → Cq := fun r k => if k = 0 then intQ 1 else if k = 1 then intQ (ms.getD r mkD).i else intQ (ms.getD r mkD).j
def fitB (ms : List Mk) (a : Nat) : Nat → Cq := fun r => axisQ (ms.getD r mkD).p a
def fitX (ms : List Mk) (a : Nat) : Nat → Cq := backF numO Cq.zero (elim numO 3 4 (augN 3 (nrmA ms.length (fitA ms)) (nrmB ms.length (fitA ms) (fitB ms a)))).1 3 3
def fitF (ms : List Mk) : F3 := ⟨⟨fitX ms 0 0, fitX ms 1 0, fitX ms 2 0⟩, ⟨fitX ms 0 1, fitX ms 1 1, fitX ms 2 1⟩, ⟨fitX ms 0 2, fitX ms 1 2, fitX ms 2 2⟩⟩
def fitDet (ms : List Mk) : Cq := detD 3 (nrmA ms.length (fitA ms))
def fitE (ms : List Mk) : Int := if ms.length < 3 ∨ 32 < ms.length then 4 else if ms.all (fun m => m.p.real) = true then (if fitDet ms = Cq.zero then 6 else 0) else 1
theorem fit_det (ms : List Mk) (a : Nat) : detD 3 (augN 3 (nrmA ms.length (fitA ms)) (nrmB ms.length (fitA ms) (fitB ms a))) = fitDet ms := rfl
theorem fitbounds {n : Nat} (hn : n ≤ 32) : (1 + n * (2 * 1100 + 2) + 2) * 6 ^ 3 + 3 * ((1 + n * (2 * 1100 + 2) + 2) * 6 ^ 3 + Xb ((1 + n * (2 * 1100 + 2) + 2) * 6 ^ 3) 3 + 2) ≤ 2 ^ 36 ∧ Xb ((1 + n * (2 * 1100 + 2) + 2) * 6 ^ 3) 3 ≤ 2 ^ 32 := by
 have hT : (1 + n * (2 * 1100 + 2) + 2) * 6 ^ 3 ≤ 15300000 := by omega
 generalize (1 + n * (2 * 1100 + 2) + 2) * 6 ^ 3 = T at *
 have e : Xb T 3 ≤ 204 * T + 408 := by simp only [Xb]; omega
 omega
theorem fitA_sz {ms : List Mk} (h : ∀ m ∈ ms, m.in64) (r k : Nat) : (fitA ms r k).sz ≤ 64 := by
 have hd : (ms.getD r mkD).in64 := by
  rcases Nat.lt_or_ge r ms.length with g | g
  · have e : ms.getD r mkD = ms[r] := by simp [List.getD, g]
    rw [e]; exact h _ (List.getElem_mem g)
  · have e : ms.getD r mkD = mkD := by simp [List.getD, g]
    rw [e]; exact ⟨⟨by show (-9223372036854775808 : Int) ≤ 0; decide, by show (0 : Int) ≤ 9223372036854775807; decide⟩, ⟨by show (-9223372036854775808 : Int) ≤ 0; decide, by show (0 : Int) ≤ 9223372036854775807; decide⟩⟩
 unfold fitA
 split
 · exact intQ_sz ⟨by decide, by decide⟩
 · split
   · exact intQ_sz hd.1
   · exact intQ_sz hd.2
theorem getD_at {ms : List Mk} {r : Nat} (h : r < ms.length) : ms[r]? = some (ms.getD r mkD) := by simp [List.getD, h]
theorem axis_cells {V : View} {s : SpotV} {p : P3} (h : SpotAt V s p) {a : Nat} (ha : a < 3) :
 ∃ y : NumV, List.take 5 (List.drop (a * 5) (s.x.val.cells.toList ++ (s.y.val.cells.toList ++ s.z.val.cells.toList))) = y.val.cells.toList ∧ NumAt V y (axisQ p a) := by
 obtain ⟨x, ⟨y, rfl, hy⟩, _, hg⟩ := (cells3 h.x h.y h.z).at (i := a) (z := axisQ p a) (by
  have : a = 0 ∨ a = 1 ∨ a = 2 := by omega
  rcases this with rfl | rfl | rfl <;> rfl)
 rw [Nat.zero_add] at hg
 exact ⟨y, hg, hy⟩
theorem axis_sz {p : P3} {S : Nat} (h : p.szle S) (a : Nat) : (axisQ p a).sz ≤ S := by
 unfold axisQ
 split
 · exact h.1
 · split
   · exact h.2.1
   · exact h.2.2
theorem nine_cells {V : View} {o : List Value} {g : Nat → Cq} (h : Cells 5 numC V o (rowL 9 g)) (k : Nat) (hk : k < 3) :
 ∃ a : Arr3_NumV, List.take 15 (List.drop (k * 15) o) = a.val.cells.toList ∧ NumAt V a.e0 (g (3 * k)) ∧ NumAt V a.e1 (g (3 * k + 1)) ∧ NumAt V a.e2 (g (3 * k + 2)) := by
 have h1 := (h.drop (3 * k)).take 3
 have e : List.take 3 (List.drop (3 * k) (rowL 9 g)) = [g (3 * k), g (3 * k + 1), g (3 * k + 2)] := by
  have : k = 0 ∨ k = 1 ∨ k = 2 := by omega
  rcases this with rfl | rfl | rfl <;> rfl
 have e1 : 3 * k * 5 = k * 15 := by omega
 rw [e, e1] at h1
 obtain ⟨a, ho, h2, h3, h4⟩ := cells3_of h1
 exact ⟨a, ho, h2, h3, h4⟩
def partsF (ms : List Mk) (a k : Nat) : Nat → Cq := fun q => if q % 3 < a ∨ (q % 3 = a ∧ q / 3 < k) then fitX ms (q % 3) (q / 3) else Cq.zero
theorem fit_row (ms : List Mk) (r : Nat) : rowL 3 (fitA ms r) = [intQ 1, intQ (ms.getD r mkD).i, intQ (ms.getD r mkD).j] := rfl
theorem row_at {V : View} {b : Nat} {a1 a2 a3 : NumV} {x y z : Cq} (hb : V b = some (a1.val.cells.toList ++ (a2.val.cells.toList ++ a3.val.cells.toList)).toArray) (h1 : NumAt V a1 x) (h2 : NumAt V a2 y) (h3 : NumAt V a3 z) :
 ListAt 5 numC V ⟨some ⟨b, 0, none⟩, 3, 3⟩ [x, y, z] :=
 ListAt.of_block (o := a1.val.cells.toList ++ (a2.val.cells.toList ++ a3.val.cells.toList)) (o' := []) (b := b) (fun _ => by rw [List.append_nil]; exact hb) (cells3 h1 h2 h3) rfl (Nat.le_refl _) (fun _ => rfl)
set_option maxHeartbeats 1000000 in
theorem Fit_spec {V : View} {s : Sl} {ms : List Mk} (h : MarksAt V s ms) (hi : ∀ m ∈ ms, m.in64) (hz : ∀ m ∈ ms, m.p.szle 1100) :
 CallV Tryz.prog n_scan_Fit #[s.v] V fun v V' => ∃ r : FrameV, v = .tuple #[r.val, .int .i64 (fitE ms)] ∧ FrameAt V' r (if fitE ms = 0 then fitF ms else F3.zero) ∧
  (fitE ms = 0 → (fitF ms).szle (2 ^ 32)) := by
 have hl : s.len = ms.length := h.len
 let n := ms.length
 let A := fitA ms
 have nil : ∀ (e : Int) (V' : View), fitE ms = e → e ≠ 0 → ∃ r : FrameV, Value.tuple #[(FrameV.mk ⟨zN, zN, zN⟩ ⟨zN, zN, zN⟩ ⟨zN, zN, zN⟩).val, .int .i64 e] = Value.tuple #[r.val, .int .i64 (fitE ms)] ∧
  FrameAt V' r (if fitE ms = 0 then fitF ms else F3.zero) ∧ (fitE ms = 0 → (fitF ms).szle (2 ^ 32)) := fun e V' he hne => by
  rw [he, if_neg hne]; exact ⟨_, rfl, FrameAt.zero V', fun h => absurd h hne⟩
 let rowN : View → List Value → List Cq → Prop := fun V x row => ∃ s : Sl, x = [s.v] ∧ ListAt 5 numC V s row
 have rowN_le : ∀ {V V' : View}, V.le V' → ∀ x row, rowN V x row → rowN V' x row := fun hle x row ⟨s, e, hs⟩ => ⟨s, e, NumsAt.le hle hs⟩
 refine scan_Fit_vc s V _ (fun _ _ _ => 3 ≤ n ∧ n ≤ 32)
  (fun _ x V' => ∃ (t : Nat) (l : List Value), x.t26 = t ∧ t ≤ n ∧ LstOk 1 x.t4l x.t4c x.o4 l ∧ x.t4l = t ∧ Cells 1 rowN V' l (matL t 3 A) ∧ ∀ m ∈ ms.take t, m.p.real = true) (fun _ x _ => n - x.t26.toNat)
  (fun _ x V' => ∃ a : Nat, x.t48 = a ∧ a ≤ 3 ∧ Cells 5 numC V' x.o7 (rowL 9 (partsF ms a 0)) ∧ (0 < a → fitDet ms ≠ Cq.zero ∧ ∀ b, b < a → ∀ k, k < 3 → (fitX ms b k).sz ≤ 2 ^ 32)) (fun _ x _ => 3 - x.t48.toNat)
  (fun c x V' => ∃ (a t : Nat) (l : List Value), c.t48 = a ∧ a < 3 ∧ x.t53 = t ∧ t ≤ n ∧ LstOk 5 x.t9l x.t9c x.o9 l ∧ x.t9l = t ∧ Cells 5 numC V' l (rowL t (fitB ms a)) ∧ Cells 5 numC V' x.o7 (rowL 9 (partsF ms a 0))) (fun _ x _ => n - x.t53.toNat)
  (fun c x V' => ∃ a k : Nat, c.t48 = a ∧ a < 3 ∧ x.t77 = k ∧ k ≤ 3 ∧ Cells 5 numC V' x.o7 (rowL 9 (partsF ms a k))) (fun _ x _ => 3 - x.t77.toNat) ?_
 rw [hl]
 refine ⟨⟨fun h3 => nil 4 V ?_ (by decide), fun h3 => ⟨fun h4 => nil 4 V ?_ (by decide), fun h4 => ?_⟩⟩, ?_⟩
 · unfold fitE; rw [if_pos (.inl (by simp at h3; omega))]
 · unfold fitE; rw [if_pos (.inr (by simp at h4; omega))]
 · exact ⟨by simp at h3; omega, by simp at h4; omega⟩
 rintro ⟨o2⟩ V1 l1 ⟨hn3, hn32⟩
 have hn3 : 3 ≤ ms.length := hn3
 have hn32 : ms.length ≤ 32 := hn32
 refine ⟨⟨0, [], rfl, by omega, LstOk.nil, rfl, rfl, by simp⟩, ?_⟩
 rintro ⟨t4l, t4c, t26, o2', o4⟩ V2 l2 ⟨t, l, et, ht, hL, e4, hC, hreal⟩
 dsimp only at et hL e4 hC ⊢
 subst et; subst e4
 have L2 := View.le_trans l1 l2
 refine ⟨fun hlt => ?_, fun hge => ?_⟩
 · have hk : t4l < ms.length := by simp at hlt; omega
   obtain ⟨g1, x, ⟨m, rfl, hm⟩, _, hh, hs⟩ := ListAt.get (h.le L2) (t := (t4l : Int)) (by omega) (z := ms.getD t4l mkD) (by rw [Int.toNat_natCast]; exact getD_at hk)
   rw [hl] at g1
   have hmem : ms.getD t4l mkD ∈ ms := List.mem_of_getElem? (getD_at hk)
   obtain ⟨i1, i2⟩ := hi _ hmem
   refine ⟨g1, m, hh, hs, fun b1 V3 l3 _ hb1 => (right_one (hm.p.le l3) hb1).mono fun v V4 l4 hv => ⟨_, hv, fun hr => nil 1 V4 ?_ (by decide), fun hr => ?_⟩⟩
   · have e : (ms.getD t4l mkD).p.real = false := by simpa using hr
     unfold fitE
     rw [if_neg (by omega), if_neg (by
      intro hall
      rw [List.all_eq_true] at hall
      rw [hall _ hmem] at e; simp at e)]
   · have hre : (ms.getD t4l mkD).p.real = true := by simpa using hr
     refine (whole_spec (by omega) (by omega)).mono fun v V5 l5 ⟨r2, hv, h2⟩ => ⟨r2, hv, ?_⟩
     rw [hm.i, hm.j]
     refine (whole_spec i1.1 i1.2).mono fun v V6 l6 ⟨r3, hv, h3⟩ => ⟨r3, hv, ?_⟩
     refine (whole_spec i2.1 i2.2).mono fun v V7 l7 ⟨r4, hv, h4⟩ => ⟨r4, hv, fun b2 V8 l8 _ hb2 b3 V9 l9 _ hb3 => ?_⟩
     have M9 := View.le_trans l8 l9
     have hrow : ListAt 5 numC V9 ⟨some ⟨b2, 0, none⟩, 3, 3⟩ (rowL 3 (fitA ms t4l)) := by
      rw [fit_row]
      exact row_at (l9 _ _ hb2) (h2.le (View.le_trans l6 (View.le_trans l7 M9))) (h3.le (View.le_trans l7 M9)) (h4.le M9)
     have hnew : V9.has (some (Addr.mk b3 0 none)) [Value.slice (some ⟨b2, 0, none⟩) 3 3] := rhas_block (cs := [Value.slice (some ⟨b2, 0, none⟩) 3 3]) (j := 0) hb3 (fun i v hv => by rw [Nat.zero_add]; exact hv) rfl
     refine ⟨l, _, hL, hnew, rfl, by intro v hv; simp at hv; subst hv; rfl, by unfold maxLen; omega, by omega, fun c1 l3' hl3 => ?_⟩
     rw [i64w (by omega) (by omega)]
     refine ⟨⟨t4l + 1, _, by omega, hk, hl3, rfl, ?_, fun q hq => ?_⟩, by omega⟩
     · have e : matL (t4l + 1) 3 A = matL t4l 3 A ++ [rowL 3 (A t4l)] := by simp [matL, List.range_succ]
       rw [e]
       exact (hC.imp (rowN_le (View.le_trans l3 (View.le_trans l4 (View.le_trans l5 (View.le_trans l6 (View.le_trans l7 M9))))))).append (Cells.one rfl ⟨_, rfl, hrow⟩)
     · rw [List.take_add_one, getD_at hk] at hq
       simp only [Option.toList_some, List.mem_append, List.mem_singleton] at hq
       rcases hq with hq | hq
       · exact hreal q hq
       · subst hq; exact hre
 have et : t4l = ms.length := by simp at hge; have : t4l ≤ ms.length := ht; omega
 subst et
 rw [List.take_length] at hreal
 have hall : ms.all (fun m => m.p.real) = true := List.all_eq_true.2 hreal
 intro b4 V10 l10 hb4
 have hM : RowsV 5 numC V10 ⟨lstA b4 t4c, ms.length, t4c⟩ (matL ms.length 3 A) := ListAt.of_lst hL hb4 (hC.imp (rowN_le l10)) (by rw [matL_length])
 have L10 := View.le_trans L2 l10
 refine ⟨⟨0, rfl, by omega, ?_, fun h => absurd h (by omega)⟩, ?_⟩
 · have e : rowL 9 (partsF ms 0 0) = List.replicate 9 Cq.zero := by
     rw [← rowL_const]; exact rowL_congr fun q _ => by unfold partsF; rw [if_neg (by omega)]
   rw [e]; exact NumsIn.zeros V10 9
 rintro ⟨t48, o2'', o7⟩ V11 l11 ⟨a, ea, ha, hP, hdone⟩
 dsimp only at ea hP ⊢
 subst ea
 have L11 := View.le_trans L10 l11
 refine ⟨fun hlt => ⟨⟨a, 0, [], rfl, by simp at hlt; omega, rfl, by omega, LstOk.nil, rfl, rfl, hP⟩, ?_⟩, fun hge => ?_⟩
 · have ha3 : a < 3 := by simp at hlt; omega
   rintro ⟨t9l, t9c, t53, o2x, o7', o9⟩ V12 l12 ⟨a', t, lb, ea, _, et, ht, hLb, e9, hCb, hP'⟩
   dsimp only at ea et hLb e9 hCb hP' ⊢
   obtain rfl : a = a' := by omega
   subst et; subst e9
   have L12 := View.le_trans L11 l12
   refine ⟨fun hlt2 => ?_, fun hge2 => ?_⟩
   · have hk : t9l < ms.length := by simp at hlt2; omega
     obtain ⟨g1, x, ⟨m, rfl, hm⟩, _, hh, hs⟩ := ListAt.get (h.le L12) (t := (t9l : Int)) (by omega) (z := ms.getD t9l mkD) (by rw [Int.toNat_natCast]; exact getD_at hk)
     rw [hl] at g1
     refine ⟨g1, m, hh, hs, (axes_spec m.at_).mono fun v V13 l13 hv => ⟨_, hv, ⟨by omega, by omega⟩, ?_⟩⟩
     obtain ⟨y, hy1, hy2⟩ := axis_cells (hm.p.le l13) ha3
     refine ⟨y, by rw [Int.toNat_natCast]; exact hy1, fun b5 V14 l14 _ hb5 => ?_⟩
     have hnew : V14.has (some (Addr.mk b5 0 none)) y.val.cells.toList := rhas_block (cs := y.val.cells.toList) (j := 0) hb5 (fun i v hv => by rw [Nat.zero_add]; exact hv) rfl
     have hyc : numC V14 y.val.cells.toList (fitB ms a t9l) := ⟨y, rfl, hy2.le l14⟩
     refine ⟨lb, _, hLb, hnew, rfl, oneN hyc, by unfold maxLen; omega, by omega, fun c2 l6 hl6 => ?_⟩
     rw [i64w (by omega) (by omega)]
     have M14 := View.le_trans l13 l14
     refine ⟨⟨a, t9l + 1, _, rfl, ha3, by omega, hk, hl6, rfl, ?_, hP'.imp (numC.le M14)⟩, by omega⟩
     rw [← rowL_push]
     exact (hCb.imp (numC.le M14)).append (Cells.one rfl hyc)
   · have et : t9l = ms.length := by simp at hge2; have : t9l ≤ ms.length := ht; omega
     subst et
     intro b6 V15 l15 hb6
     have hb : NumsAt V15 ⟨lstA b6 t9c, ms.length, t9c⟩ (rowL ms.length (fitB ms a)) := ListAt.of_lst hLb hb6 (hCb.imp (numC.le l15)) (by rw [rowL_length])
     have M15 := View.le_trans l11 (View.le_trans l12 l15)
     have sB : ∀ r, r < ms.length → (fitB ms a r).sz ≤ 1100 := fun r hr => axis_sz (hz _ (List.mem_of_getElem? (getD_at hr))) a
     refine (Least_spec 1100 (hM.le numC.le M15) hb (by omega) hn32 (by omega) (fun r k _ _ => Nat.le_trans (fitA_sz hi r k) (by omega)) sB _ rfl (fitbounds hn32).1 (Nat.le_trans (fitbounds hn32).2 (by decide))).mono fun v V16 l16 ⟨r6, h6⟩ => ?_
     have hiff := elim_det (n := 3) (w := 4) (by omega) (by omega) (by omega) (augN 3 (nrmA ms.length (fitA ms)) (nrmB ms.length (fitA ms) (fitB ms a)))
     rw [fit_det] at hiff
     cases hst : (elim numO 3 4 (augN 3 (nrmA ms.length (fitA ms)) (nrmB ms.length (fitA ms) (fitB ms a)))).2.2 with
     | some c =>
       rw [show (elim numO 3 (3 + 1) (augN 3 (nrmA ms.length A) (nrmB ms.length A (fitB ms a)))).2.2 = some c from hst] at h6
       obtain ⟨hv, hr⟩ := h6
       have hd : fitDet ms = Cq.zero := Classical.byContradiction fun g => by rw [hiff.2 g] at hst; simp at hst
       refine ⟨r6, 6, hv, fun _ => nil 6 V16 ?_ (by decide), fun hf => by simp at hf⟩
       unfold fitE
       rw [if_neg (by omega), if_pos hall, if_pos hd]
     | none =>
       rw [show (elim numO 3 (3 + 1) (augN 3 (nrmA ms.length A) (nrmB ms.length A (fitB ms a)))).2.2 = none from hst] at h6
       obtain ⟨hv, hx, hsz⟩ := h6
       have hx : NumsAt V16 r6 (rowL 3 (fitX ms a)) := hx
       have hxl : r6.len = 3 := by have := hx.len; rw [rowL_length] at this; exact this
       have hd : fitDet ms ≠ Cq.zero := hiff.1 hst
       refine ⟨r6, 0, hv, fun hf => by simp at hf, fun _ => ⟨⟨a, 0, rfl, ha3, rfl, by omega, hP'.imp (numC.le (View.le_trans l15 l16))⟩, ?_⟩⟩
       rintro ⟨t77, o7''⟩ V17 l17 ⟨a', k, ea, _, ek, hk3, hP3⟩
       dsimp only at ea ek hP3 ⊢
       obtain rfl : a = a' := by omega
       subst ek
       rw [hxl]
       refine ⟨fun hlt3 => ?_, fun hge3 => ?_⟩
       · have hk : k < 3 := by simp at hlt3; omega
         obtain ⟨d1, y, hh, hs, hy⟩ := (hx.le l17).get (t := (k : Int)) (by omega) (by rw [rowL_length, Int.toNat_natCast]; exact hk)
         rw [hxl] at d1
         have hyk : NumAt V17 y (fitX ms a k) := by
          have e : nth (rowL 3 (fitX ms a)) (Int.toNat (k : Int)) = fitX ms a k := by rw [Int.toNat_natCast]; exact nth_map hk _
          rw [e] at hy; exact hy
         refine ⟨d1, y, hh, hs, ⟨by omega, by omega⟩, ⟨by omega, by omega⟩, ?_, ?_⟩
         · rw [hP3.length, rowL_length, Int.toNat_natCast, Int.toNat_natCast]; omega
         · rw [i64w (by omega) (by omega)]
           refine ⟨⟨a, k + 1, rfl, ha3, by omega, by omega, ?_⟩, by omega⟩
           have hset := hP3.set0 (i := 3 * k + a) (by rw [rowL_length]; omega) (lenN y) (cellN hyk)
           rw [rowL_set] at hset
           rw [Int.toNat_natCast, Int.toNat_natCast]
           have e1 : 0 + (3 * k + a) * 5 = 0 + k * 15 + a * 5 := by omega
           rw [e1] at hset
           rw [rowL_congr (g := partsF ms a (k + 1)) (fun q hq => by
            unfold partsF
            by_cases e : q = 3 * k + a
            · subst e
              have m1 : (3 * k + a) % 3 = a := by omega
              have m2 : (3 * k + a) / 3 = k := by omega
              rw [if_pos rfl, m1, m2, if_pos (by omega)]
            · rw [if_neg e]
              by_cases c : q % 3 < a ∨ (q % 3 = a ∧ q / 3 < k)
              · rw [if_pos c, if_pos (by omega)]
              · rw [if_neg c, if_neg (by omega)])] at hset
           exact hset
       · have ek : k = 3 := by simp at hge3; omega
         subst ek
         rw [i64w (by omega) (by omega)]
         refine ⟨⟨a + 1, by omega, by omega, ?_, fun _ => ⟨hd, fun b hb k hk => ?_⟩⟩, by omega⟩
         · rw [rowL_congr (g := partsF ms a 3) (fun q hq => by
             unfold partsF
             by_cases c : q % 3 < a + 1 ∨ (q % 3 = a + 1 ∧ q / 3 < 0)
             · rw [if_pos c, if_pos (by omega)]
             · rw [if_neg c, if_neg (by omega)])]
           exact hP3
         · by_cases e : b < a
           · exact (hdone (by omega)).2 b e k hk
           · have : b = a := by omega
             subst this
             have := hsz k hk
             exact Nat.le_trans this (fitbounds hn32).2
 · have ea : a = 3 := by simp at hge; omega
   subst ea
   obtain ⟨hd, hsz⟩ := hdone (by omega)
   have hE : fitE ms = 0 := by unfold fitE; rw [if_neg (by omega), if_pos hall, if_neg hd]
   have hg : ∀ k c, k < 3 → c < 3 → partsF ms 3 0 (3 * k + c) = fitX ms c k := fun k c hk hc => by
    unfold partsF
    have m1 : (3 * k + c) % 3 = c := by omega
    have m2 : (3 * k + c) / 3 = k := by omega
    rw [m1, m2, if_pos (by omega)]
   obtain ⟨a0, o0, p00, p01, p02⟩ := nine_cells hP 0 (by omega)
   obtain ⟨a1, o1, p10, p11, p12⟩ := nine_cells hP 1 (by omega)
   obtain ⟨a2, o2, p20, p21, p22⟩ := nine_cells hP 2 (by omega)
   refine ⟨⟨by omega, by omega⟩, a0, o0, ⟨by omega, by omega⟩, a1, o1, ⟨by omega, by omega⟩, a2, o2, ?_⟩
   refine (spot_spec a0).mono fun v V18 l18 hv => ⟨_, hv, (spot_spec a1).mono fun v V19 l19 hv => ⟨_, hv, (spot_spec a2).mono fun v V20 l20 hv => ⟨_, hv, ⟨⟨a0.e0, a0.e1, a0.e2⟩, ⟨a1.e0, a1.e1, a1.e2⟩, ⟨a2.e0, a2.e1, a2.e2⟩⟩, ?_, ?_, ?_⟩⟩⟩
   · rw [hE]
   · rw [hE, if_pos rfl]
     have K := View.le_trans l18 (View.le_trans l19 l20)
     have g := fun k c hk hc (x : NumV) (hx : NumAt V11 x (partsF ms 3 0 (3 * k + c))) => (show NumAt V20 x (fitX ms c k) from by rw [hg k c hk hc] at hx; exact hx.le K)
     exact ⟨⟨g 0 0 (by omega) (by omega) _ p00, g 0 1 (by omega) (by omega) _ p01, g 0 2 (by omega) (by omega) _ p02⟩, ⟨g 1 0 (by omega) (by omega) _ p10, g 1 1 (by omega) (by omega) _ p11, g 1 2 (by omega) (by omega) _ p12⟩,
      ⟨g 2 0 (by omega) (by omega) _ p20, g 2 1 (by omega) (by omega) _ p21, g 2 2 (by omega) (by omega) _ p22⟩⟩
   · intro _
     exact ⟨⟨hsz 0 (by omega) 0 (by omega), hsz 1 (by omega) 0 (by omega), hsz 2 (by omega) 0 (by omega)⟩, ⟨hsz 0 (by omega) 1 (by omega), hsz 1 (by omega) 1 (by omega), hsz 2 (by omega) 1 (by omega)⟩, ⟨hsz 0 (by omega) 2 (by omega), hsz 1 (by omega) 2 (by omega), hsz 2 (by omega) 2 (by omega)⟩⟩

theorem slices_Reverse_spec {V : View} {n c : Nat} {w : List Value} {f : Nat → Int} (h1 : 1 ≤ n) (hn : n ≤ w.length) (hw : n ≤ 2 ^ 60) (hf : ∀ p, p < n → w[p]? = some (.int .u8 (f p))) :
 CallD Tryz.prog n_slices_Reverse___byte_byte_ (fun b => (Value.slice (some ⟨b, 0, none⟩) n c :: [] : List Value)) T_u8 w V fun v l _ => v = .tuple #[] ∧ l.length = w.length ∧ l.take n = (w.take n).reverse := by
 refine slices_Reverse___byte_byte__vc 0 n c w V _ (fun _ x _ => ∃ i j : Nat, x.t2 = (i : Int) ∧ x.t3 = (j : Int) ∧ j + i = n - 1 ∧ (i ≤ j + 1) ∧ x.o0 = revI w n i) (fun _ x _ => (x.t3 - x.t2 + 2).toNat) ⟨⟨0, n - 1, rfl, ?_, by omega, by omega, (revI_zero w n).symm⟩, ?_⟩
 · show IntKind.i64.wrap ((n : Int) - 1) = _
   rw [i64w (by omega) (by omega)]; omega
 rintro ⟨t, u, o⟩ V1 l1 ⟨i, j, rfl, rfl, hij, hi, rfl⟩
 have gd : ∀ p, p < n → w.getD p undef = .int .u8 (f p) := fun p hp => by simp [List.getD, hf p hp]
 dsimp only
 refine ⟨fun hlt => ?_, fun hge => ?_⟩
 · simp only [decide_eq_true_eq] at hlt
   have hij' : i < j := by omega
   rw [i64w (n := (i : Int) + 1) (by omega) (by omega), i64w (n := (j : Int) - 1) (by omega) (by omega)]
   simp only [Int.toNat_natCast, Nat.mul_one, Nat.zero_add]
   refine ⟨⟨by omega, by omega⟩, f j, ?_, ⟨by omega, by omega⟩, f i, ?_, ⟨by omega, by omega⟩, by rw [revI_length]; omega, ⟨by omega, by omega⟩, by rw [List.length_set, revI_length]; omega, ⟨i + 1, j - 1, by omega, by omega, by omega, by omega, ?_⟩, by omega⟩
   · rw [revI_mid (by omega) (by omega) (by omega), gd j (by omega)]
   · rw [revI_mid (by omega) (by omega) (by omega), gd i (by omega)]
   · have := revI_step (o := w) hn hij hij'
     rw [gd i (by omega), gd j (by omega)] at this
     exact this
 · simp only [decide_eq_false_iff_not] at hge
   exact ⟨rfl, revI_length _ _ _, revI_end hn (by omega)⟩
theorem digC_get {l : List Nat} {p : Nat} (h : p < l.length) : (digC l)[p]? = some (.int .u8 ((48 + l.getD p 0 : Nat) : Int)) := by simp [digC, h]
theorem u8dig {r : Nat} : IntKind.u8.wrap (IntKind.u32.wrap (48 + (Int.tmod (r : Int) 10))) = ((48 + r % 10 : Nat) : Int) := by
 rw [show Int.tmod (r : Int) 10 = ((r % 10 : Nat) : Int) from (Int.ofNat_tmod r 10).symm, u32w (by omega) (by omega), IntWalk.u8_in _ ⟨by omega, by omega⟩]; omega
theorem u32q {r : Nat} (h : r < 4294967296) : IntKind.u32.wrap (Int.tdiv (r : Int) 10) = ((r / 10 : Nat) : Int) := by
 rw [show Int.tdiv (r : Int) 10 = ((r / 10 : Nat) : Int) from (Int.ofNat_tdiv r 10).symm, u32w (by omega) (by omega)]
theorem oneC (n : Int) : ∀ v ∈ [Value.int .u8 n], Value.oneCell' v = true := by intro v hv; simp at hv; subst hv; rfl
theorem nat_digits_spec {V : View} {s : Sl} {N : Nat} (h : NatAt V s N) (hb : bl N ≤ 2 ^ 42) :
 CallV Tryz.prog n_nat_digits #[s.v] V fun v _ => v = .string (decS N) := by
 have hz := h.len_zero
 have hlow := low_length N
 refine nat_digits_vc s V _
  (fun _ x V' => ∃ (X : Nat) (dl : List Nat), NatAt V' x.t0 X ∧ X ≤ N ∧ LstOk 1 x.t3l x.t3c x.o3 (digC dl) ∧ x.t3l = dl.length ∧ low N = dl ++ low X) (fun _ x V' => natVal V' x.t0)
  (fun c x V' => ∃ (q r k : Nat) (dl : List Nat), NatAt V' c.t0 q ∧ q ≤ N ∧ x.t4 = (r : Int) ∧ x.t5 = (k : Int) ∧ k ≤ 9 ∧ r < 10 ^ (9 - k) ∧ LstOk 1 x.t3l x.t3c x.o3 (digC dl) ∧ x.t3l = dl.length ∧ low N = dl ++ low (q * 10 ^ (9 - k) + r)) (fun _ x _ => (9 - x.t5).toNat)
  ⟨fun h0 => ?_, fun h0 => ⟨⟨N, [], h, Nat.le_refl _, LstOk.nil, rfl, rfl⟩, ?_⟩⟩
 · have : s.len = 0 := by have : (s.len : Int) = 0 := (by simpa using h0); omega
   rw [hz.1 this, decS_zero]
 have hN0 : N ≠ 0 := by
  intro e; rw [← hz] at e; rw [e] at h0; simp at h0
 rintro ⟨t0, n, c, o⟩ V1 l1 ⟨X, dl, hX, hXN, hlo, hn, hval⟩
 dsimp only at hX hlo hn ⊢
 have hXz := hX.len_zero
 refine ⟨fun hp => ?_, fun hp => ?_⟩
 · simp only [gt_iff_lt, decide_eq_true_eq] at hp
   have hX0 : X ≠ 0 := fun e => by rw [← hXz] at e; omega
   have hbX : bl X ≤ 2 ^ 42 := Nat.le_trans (bl_mono hXN) hb
   refine (nat_short_spec (d := 1000000000) hX (wn_bl (by omega)) (by omega) (by omega)).mono fun v V2 l2 ⟨r1, hv, h1⟩ => ⟨r1, _, hv, ⟨X / 1000000000, X % 1000000000, 0, dl, h1, Nat.le_trans (Nat.div_le_self _ _) hXN, rfl, rfl, by omega, ?_, hlo, hn, ?_⟩, ?_⟩
   · exact Nat.mod_lt _ (by omega)
   · have : X / 1000000000 * 10 ^ (9 - 0) + X % 1000000000 = X := by
       rw [show (10 : Nat) ^ (9 - 0) = 1000000000 by decide]; omega
     rw [this]; exact hval
   rintro ⟨n3, c3, r3, k3, o3⟩ V3 l3 ⟨q, r, k, dl3, hq, hqN, rfl, rfl, hk, hr, hlo3, hn3, hval3⟩
   dsimp only at hq hlo3 hn3 ⊢
   have hqe := hq.inj (h1.le l3)
   have hlt9 : r < 1000000000 := Nat.lt_of_lt_of_le hr (by
    have : (10 : Nat) ^ (9 - k) ≤ 10 ^ 9 := Nat.pow_le_pow_right (by omega) (by omega)
    exact Nat.le_trans this (by decide))
   have hl3 : dl3.length ≤ 2 ^ 42 := by
    have := congrArg List.length hval3
    rw [List.length_append] at this; omega
   have hqz := hq.len_zero
   -- one more digit
   have step : (q ≠ 0 ∨ r ≠ 0) → k < 9 → ∀ (b1 : Nat) (V4 : View), V3.le V4 → View.Fin V4 → V4 b1 = some #[.int .u8 (IntKind.u8.wrap (IntKind.u32.wrap (48 + (Int.tmod (r : Int) 10))))] →
    ∃ (l1 : List Value) (l2 : List Value), LstOk 1 n3 c3 o3 l1 ∧ View.has V4 (some (Addr.mk b1 0 none)) l2 ∧ List.length l2 = 1 * 1 ∧ (∀ v ∈ l2, Value.oneCell' v = true) ∧ n3 + 1 ≤ maxLen ∧ (n3 + 1) * 1 ≤ 140737488355328 ∧
    ∀ (c1 : Nat) (l3 : List Value), LstOk 1 (n3 + 1) c1 l3 (l1 ++ l2) →
    (∃ (q' r' k' : Nat) (dl : List Nat), NatAt V4 r1 q' ∧ q' ≤ N ∧ (IntKind.u32.wrap (Int.tdiv (r : Int) 10)) = (r' : Int) ∧ (IntKind.i64.wrap ((k : Int) + 1)) = (k' : Int) ∧ k' ≤ 9 ∧ r' < 10 ^ (9 - k') ∧ LstOk 1 (n3 + 1) c1 l3 (digC dl) ∧ n3 + 1 = dl.length ∧ low N = dl ++ low (q' * 10 ^ (9 - k') + r')) ∧ (9 - (IntKind.i64.wrap ((k : Int) + 1))).toNat < (9 - (k : Int)).toNat := by
    intro hne hk9 b1 V4 l4 _ hb1
    rw [u8dig] at hb1
    have hrr : r / 10 < 10 ^ (9 - (k + 1)) := by
     have : 10 ^ (9 - k) = 10 ^ (9 - (k + 1)) * 10 := by rw [← Nat.pow_succ]; congr 1; omega
     omega
    have hst := low_step (q := q) (r := r) (k := 9 - (k + 1)) hne
    rw [show 9 - (k + 1) + 1 = 9 - k by omega] at hst
    refine ⟨digC dl3, [.int .u8 ((48 + r % 10 : Nat) : Int)], hlo3, has_block hb1, rfl, oneC _, Nat.le_trans (show n3 + 1 ≤ 2 ^ 43 by omega) (by decide), by omega, fun c1 l3' hl3' => ⟨⟨q, r / 10, k + 1, dl3 ++ [r % 10], hq.le l4, hqN, u32q (by omega), by rw [i64w (by omega) (by omega)]; omega, hk9, hrr, ?_, by simp [hn3], ?_⟩, by rw [i64w (by omega) (by omega)]; omega⟩⟩
    · rw [← digC_append]; exact hl3'
    · rw [hval3, hst]; simp
   -- the end of the block
   have stop : (k = 9 ∨ q = 0 ∧ r = 0) → (∃ (X : Nat) (dl : List Nat), NatAt V3 r1 X ∧ X ≤ N ∧ LstOk 1 n3 c3 o3 (digC dl) ∧ n3 = dl.length ∧ low N = dl ++ low X) ∧ natVal V3 r1 < natVal V1 t0 := by
    intro hs
    refine ⟨⟨q, dl3, hq, hqN, hlo3, hn3, ?_⟩, ?_⟩
    · rcases hs with rfl | ⟨rfl, rfl⟩
      · have : r = 0 := by simp at hr; omega
        subst this
        simpa using hval3
      · simpa using hval3
    · rw [natVal_eq hq, natVal_eq hX, hqe]
      omega
   refine ⟨fun hk9 => ⟨fun hq1 => ⟨fun _ => step (.inl ?_) (by have : (k : Int) < 9 := (by simpa using hk9); omega), fun h => absurd h (by simp)⟩, fun hq1 => ⟨fun hr1 => step (.inr ?_) (by have : (k : Int) < 9 := (by simpa using hk9); omega), fun hr1 => stop (.inr ⟨?_, ?_⟩)⟩⟩, fun hk9 => ⟨fun h => absurd h (by simp), fun _ => stop (.inl ?_)⟩⟩
   · simp only [gt_iff_lt, decide_eq_true_eq] at hq1
     intro e; rw [← hqz] at e; omega
   · simp only [gt_iff_lt, decide_eq_true_eq] at hr1; omega
   · simp only [gt_iff_lt, decide_eq_false_iff_not] at hq1; exact hqz.1 (by omega)
   · simp only [gt_iff_lt, decide_eq_false_iff_not] at hr1; omega
   · simp only [decide_eq_false_iff_not] at hk9; omega
 · simp only [gt_iff_lt, decide_eq_false_iff_not] at hp
   have hX0 : X = 0 := hXz.1 (by omega)
   rw [hX0, low_zero, List.append_nil] at hval
   subst hval
   have hd0 : low N ≠ [] := by rw [low_pos hN0]; simp
   have hl0 : 0 < (low N).length := List.length_pos_iff.2 hd0
   have hle := hlo.le
   have htk := hlo.take
   have hol := hlo.len
   rw [Nat.mul_one] at htk hol
   have htl : n ≤ o.length := by omega
   have g : ∀ p, p < n → o[p]? = some (.int .u8 (((48 + (low N).getD p 0 : Nat) : Nat) : Int)) := by
    intro p hp'
    rw [← List.getElem?_take_of_lt hp', htk]
    exact digC_get (by omega)
   refine ⟨⟨by intro e; rw [e] at htl; simp at htl; omega, ⟨by omega, trivial⟩, trivial⟩, ?_⟩
   refine (slices_Reverse_spec (c := c) (f := fun p => ((48 + (low N).getD p 0 : Nat) : Int)) (by omega) htl (by omega) g).mono fun v l10 V7 l7 ⟨hv, hl10, ht10⟩ => ⟨hv, fun b4 V8 l8 hb4 => ?_⟩
   refine ⟨decL N, ?_, by rw [decL_length hN0]; omega, rfl, rfl⟩
   rw [htk, digC_rev hN0] at ht10
   intro j v hj
   have hjl : j < n := by
    rcases Nat.lt_or_ge j n with h | h
    · exact h
    · rw [List.getElem?_eq_none (by simp [decL_length hN0]; omega)] at hj; simp at hj
   rw [load_block hb4]
   rw [← ht10, List.getElem?_take_of_lt hjl] at hj
   simpa using hj
def ratQ1 (a : Int) (d : Nat) : Cq := ⟨(a : Rat) / (d : Rat), 0⟩
theorem ratQ1_rep {a : Int} {d : Nat} (h : d ≠ 0) : Rep (ratQ1 a d) a 0 d := ⟨h, rfl, by show (0 : Rat) = _; rw [Rat.div_def]; simp⟩
theorem Cq.re_eq (z : Cq) : (⟨z.re, 0⟩ : Cq) = ratQ1 z.A z.D := Cq.ext' z.canon.rep.re rfl
theorem Cq.im_eq (z : Cq) : (⟨z.im, 0⟩ : Cq) = ratQ1 z.B z.D := Cq.ext' z.canon.rep.im rfl
theorem ratQ1_eqs {a : Int} {d : Nat} (h : d ≠ 0) : (ratQ1 a d).A.natAbs = a.natAbs / Nat.gcd a.natAbs d ∧ (ratQ1 a d).D = d / Nat.gcd a.natAbs d ∧ ((ratQ1 a d).A < 0 ↔ a < 0) := by
 obtain ⟨e1, e2, e3⟩ := (ratQ1_rep (a := a) h).eqs
 have hg : gcd3 a 0 d = Nat.gcd a.natAbs d := by simp [gcd3]
 have d1 := gcd3_dvd1 a 0 d
 have k1 := natAbs_div d1
 have k2 := div_lt_zero d1 (gcd3_pos a 0 h)
 rw [e1, e3, k1, hg]
 rw [hg] at k2
 exact ⟨rfl, rfl, by simpa using k2⟩
theorem ratQ1_bl {a : Int} {d : Nat} (h : d ≠ 0) : bl (ratQ1 a d).A.natAbs ≤ bl a.natAbs ∧ bl (ratQ1 a d).D ≤ bl d := by
 obtain ⟨e1, e2, _⟩ := ratQ1_eqs (a := a) h
 rw [e1, e2]
 exact ⟨bl_mono (Nat.div_le_self _ _), bl_mono (Nat.div_le_self _ _)⟩
def ratT (a : Int) (d : Nat) : ByteArray := ratS (ratQ1 a d).A (ratQ1 a d).D
theorem num_part_spec {V : View} {x : WhV} {s : Sl} {a : Int} {d : Nat} (hx : IntAt V x a) (hs : NatAt V s d) (hd : d ≠ 0) (ha : bl a.natAbs ≤ 2 ^ 41) (hdb : bl d ≤ 2 ^ 41) :
 CallV Tryz.prog n_num_part #[x.val, s.v] V fun v _ => v = .string (ratT a d) := by
 obtain ⟨b1, b2⟩ := ratQ1_bl (a := a) hd
 have s1 := decS_size (ratQ1 a d).A.natAbs
 have s2 := decS_size (ratQ1 a d).D
 have hmax : IntKind.i64.max = 9223372036854775807 := by decide
 have z1 : (ByteArray.mk #[45]).size = 1 := rfl
 have z2 : (ByteArray.mk #[47]).size = 1 := rfl
 refine num_part_vc x s V _ ((num_over_spec hx (IntAt.zero V) hs (ratQ1_rep hd) (wn_bl (by omega)) (by rw [show Int.natAbs 0 = 0 from rfl, wn_zero]; omega) (wn_bl (by omega))).mono fun v V1 l1 ⟨r, hv, hr⟩ => ⟨r, hv, ?_⟩)
 have hu := hr.under
 have hn := hr.re.1
 have hD := (ratQ1 a d).D_pos
 refine (nat_digits_spec hr.re.2 (by omega)).mono fun v V2 l2 hv => ⟨_, hv, fun hneg => ⟨by rw [z1, hmax]; omega, fun hul => ?_, fun hul => ?_⟩, fun hneg => ⟨fun hul => ?_, fun hul => ?_⟩⟩
 · simp only [gt_iff_lt, decide_eq_true_eq] at hul
   have h1 : (ratQ1 a d).D ≠ 1 := fun e => by rw [e, if_pos rfl] at hu; have := hu.len_zero.2 rfl; omega
   rw [if_neg h1] at hu
   refine (nat_digits_spec (hu.le l2) (by omega)).mono fun v V3 l3 hv => ⟨_, hv, by rw [z2, hmax]; omega, by rw [bytes_size, bytes_size, z1, z2, hmax]; omega, ?_⟩
   unfold ratT ratS
   rw [hneg] at hn
   have hn : (ratQ1 a d).A < 0 := of_decide_eq_true hn.symm
   simp only [hn, h1, if_true, if_false]; rfl
 · simp only [gt_iff_lt, decide_eq_false_iff_not] at hul
   have h1 : (ratQ1 a d).D = 1 := by
    have := hu.len_zero.1 (by omega)
    split at this <;> omega
   unfold ratT ratS
   rw [hneg] at hn
   have hn : (ratQ1 a d).A < 0 := of_decide_eq_true hn.symm
   simp only [hn, h1, if_true]; rfl
 · simp only [gt_iff_lt, decide_eq_true_eq] at hul
   have h1 : (ratQ1 a d).D ≠ 1 := fun e => by rw [e, if_pos rfl] at hu; have := hu.len_zero.2 rfl; omega
   rw [if_neg h1] at hu
   refine (nat_digits_spec (hu.le l2) (by omega)).mono fun v V3 l3 hv => ⟨_, hv, by rw [z2, hmax]; omega, by rw [bytes_size, z2, hmax]; omega, ?_⟩
   unfold ratT ratS
   rw [hneg] at hn
   have hn : ¬ (ratQ1 a d).A < 0 := of_decide_eq_false hn.symm
   simp only [hn, h1, if_false]; rfl
 · simp only [gt_iff_lt, decide_eq_false_iff_not] at hul
   have h1 : (ratQ1 a d).D = 1 := by
    have := hu.len_zero.1 (by omega)
    split at this <;> omega
   unfold ratT ratS
   rw [hneg] at hn
   have hn : ¬ (ratQ1 a d).A < 0 := of_decide_eq_false hn.symm
   simp only [hn, h1, if_false, if_true]
theorem cqS_eq (z : Cq) : cqS z = if z.B = 0 then ratT z.A z.D else if z.A = 0 then ratT z.B z.D ++ strI else if z.B < 0 then ratT z.A z.D ++ (ratT z.B z.D ++ strI) else ratT z.A z.D ++ (strPlus ++ (ratT z.B z.D ++ strI)) := by
 unfold cqS
 rw [Cq.re_eq, Cq.im_eq]; rfl
theorem ratT_size {a : Int} {d : Nat} (h : d ≠ 0) : (ratT a d).size ≤ bl a.natAbs + bl d + 4 := by
 have h1 := ratS_size (ratQ1 a d).A (ratQ1 a d).D
 obtain ⟨b1, b2⟩ := ratQ1_bl (a := a) h
 unfold ratT; omega
theorem lenT (n : Nat) : (((n : Int) == 0) = true ↔ n = 0) := by simp
theorem Num_Text_spec {V : View} {x : NumV} {z : Cq} (hx : NumAt V x z) (hz : z.sz ≤ 2 ^ 40) : CallV Tryz.prog n_Num_Text #[x.val] V fun v _ => v = .string (cqS z) := by
 have zA := z.szA; have zB := z.szB; have zD := z.szD
 have hD := z.D_pos
 have t1 := ratT_size (a := z.A) hD
 have t2 := ratT_size (a := z.B) hD
 have hmax : IntKind.i64.max = 9223372036854775807 := by decide
 have z1 : (ByteArray.mk #[105]).size = 1 := rfl
 have z2 : (ByteArray.mk #[43]).size = 1 := rfl
 rw [cqS_eq]
 refine Num_Text_vc x V _ ((Num_Real_spec hx).mono fun v V1 l1 hv => ⟨_, hv, fun hr => ?_, fun hr => ?_⟩)
 · have hB : z.B = 0 := by
     rw [Cq.B_zero]; simpa using hr
   refine (Num_den_spec (hx.le l1)).mono fun v V2 l2 ⟨r, hv, h2⟩ => ⟨r, hv, ?_⟩
   refine (num_part_spec (hx.re.le (View.le_trans l1 l2)) h2 hD (by omega) (by omega)).mono fun v V3 l3 hv => ⟨_, hv, ?_⟩
   rw [if_pos hB]
 · have hB : ¬ z.B = 0 := by
     rw [Cq.B_zero]; simpa using hr
   rw [if_neg hB]
   refine (Num_den_spec (hx.le l1)).mono fun v V2 l2 ⟨r, hv, h2⟩ => ⟨r, hv, ?_⟩
   refine (num_part_spec (hx.im.le (View.le_trans l1 l2)) h2 hD (by omega) (by omega)).mono fun v V3 l3 hv => ⟨_, hv, by rw [z1, hmax]; omega, fun hA => ?_, fun hA => ⟨fun hn => ⟨by rw [bytes_size, z1, z2, hmax]; omega, ?_⟩, fun hn => ?_⟩⟩
   · have hA : z.A = 0 := by
       have := (lenT _).1 hA
       have := hx.re.2.len_zero.1 this; omega
     rw [if_pos hA]; rfl
   all_goals
    have hA : ¬ z.A = 0 := by
     intro e
     have := hx.re.2.len_zero.2 (by omega)
     rw [this] at hA; simp at hA
    rw [if_neg hA]
    have hneg := hx.im.1
    refine (Num_den_spec (hx.le (View.le_trans l1 (View.le_trans l2 l3)))).mono fun v V4 l4 ⟨r4, hv, h4⟩ => ⟨r4, hv, ?_⟩
    refine (num_part_spec (hx.re.le (View.le_trans l1 (View.le_trans l2 (View.le_trans l3 l4)))) h4 hD (by omega) (by omega)).mono fun v V5 l5 hv => ⟨_, hv, by simp only [bytes_size, z1, z2]; rw [hmax]; omega, ?_⟩
   · have hn : ¬ z.B < 0 := by
       have : x.im.neg = false := by simpa using hn
       rw [this] at hneg; exact of_decide_eq_false hneg.symm
     rw [if_neg hn]; rfl
   · have hn : z.B < 0 := by
       have : x.im.neg = true := by simpa using hn
       rw [this] at hneg; exact of_decide_eq_true hneg.symm
     rw [if_pos hn]; rfl

theorem fd32 (z : Nat) : Int.fdiv (z : Int) (2 ^ (min (Int.toNat 32) (IntKind.u64.bits))) = ((z / 4294967296 : Nat) : Int) := by
 have e2 : (2 : Int) ^ (min (Int.toNat 32) (IntKind.u64.bits)) = 4294967296 := by decide
 rw [e2, Int.fdiv_eq_ediv_of_nonneg _ (by omega)]; omega
theorem u32n (z : Nat) : IntKind.u32.wrap (z : Int) = ((z % 4294967296 : Nat) : Int) := by rw [u32m]; omega
theorem u64n {z : Nat} (h : z < 18446744073709551616) : IntKind.u64.wrap (z : Int) = (z : Int) := u64w (by omega) (by omega)
theorem addr_same (c : Prop) [Decidable c] (a : Option Addr) : (if c then a else Option.map (fun q => Addr.add q (Int.toNat 0 * 1)) a) = a := by
 have e : (fun q : Addr => Addr.add q (Int.toNat 0 * 1)) = id := by funext q; simp [Addr.add]
 rw [e]; simp
theorem ref1_trim_spec {V : View} {s : Sl} {l : List Nat} (h : Words V s l) (hs : l.length ≤ 2 ^ 50) :
 CallV Tryz.prog n_ref1_trim #[s.v] V fun v V' => ∃ r : Sl, v = r.v ∧ NatAt V' r (wval l) := by
 have hlen := h.len
 refine ref1_trim_vc s V _ (fun _ x _ => 0 ≤ x.t3 ∧ x.t3 ≤ s.len ∧ ∀ d ∈ l.drop x.t3.toNat, d = 0) (fun _ x _ => x.t3.toNat) ⟨⟨Int.natCast_nonneg _, Int.le_refl _, ?_⟩, ?_⟩
 · intro d hd
   simp only [Int.toNat_natCast, hlen, List.drop_length] at hd
   simp at hd
 rintro ⟨t⟩ V1 hle ⟨h0, h1, h2⟩
 simp only at h0 h1 h2 ⊢
 have hcap := h.cap
 -- what is handed back
 have out : t = 0 ∨ l.getD (t.toNat - 1) 0 ≠ 0 → NatAt V1 (Sl.mk (if s.cap = Int.toNat 0 then s.a else Option.map (fun q => Addr.add q (Int.toNat 0 * 1)) s.a) (Int.toNat t - Int.toNat 0) (s.cap - Int.toNat 0)) (wval l) := by
  intro hz
  have hw : wval l = wval (l.take t.toNat) := by
   rw [wval_drop l t.toNat, wval_zero_of h2]; omega
  rw [hw, addr_same]
  refine Words.nat ⟨?_, ?_, ?_, h.wb.take _⟩ ?_
  · intro i d hi
    have hi' : i < t.toNat := by
     rcases Nat.lt_or_ge i t.toNat with h | h
     · exact h
     · rw [List.getElem?_eq_none (by simp; omega)] at hi; simp at hi
    rw [List.getElem?_take_of_lt hi'] at hi
    exact View.load_le hle (h.load i d hi)
  · simp; omega
  · simp only [Int.toNat_zero]; omega
  · intro d hd
    rcases hz with rfl | hz
    · simp at hd
    · have h3 : t.toNat ≠ 0 := by
        intro e; rw [e] at hd; simp at hd
      rw [List.getLast?_eq_getElem?] at hd
      have h4 : (l.take t.toNat).length = t.toNat := by simp; omega
      rw [h4, List.getElem?_take_of_lt (by omega)] at hd
      simp only [List.getD, hd, Option.getD_some] at hz
      exact hz
 refine ⟨fun hp => ?_, fun hp => ⟨by simp, fun _ => ⟨⟨by omega, by omega, by omega⟩, _, rfl, out (.inl ?_)⟩⟩⟩
 · simp only [decide_eq_true_eq] at hp
   rw [i64w (by omega) (by omega)]
   refine ⟨⟨by omega, by omega, h.isSome (by omega)⟩, _, (h.le hle).get (by omega) (by omega), fun hz => ?_, fun hz => ⟨⟨by omega, by omega, by omega⟩, _, rfl, out (.inr ?_)⟩⟩
   · simp only [beq_iff_eq] at hz
     refine ⟨⟨by omega, by omega, fun d hd => ?_⟩, by omega⟩
     have hlt : (t - 1).toNat < l.length := by omega
     rw [List.drop_eq_getElem_cons hlt] at hd
     rcases List.mem_cons.1 hd with rfl | hd
     · simp only [List.getD, List.getElem?_eq_getElem hlt, Option.getD_some] at hz; omega
     · exact h2 d (by rw [show (t - 1).toNat + 1 = t.toNat by omega] at hd; exact hd)
   · simp only [beq_eq_false_iff_ne, ne_eq] at hz
     rw [show t.toNat - 1 = (t - 1).toNat by omega]
     intro e; rw [e] at hz; exact hz rfl
 · simp only [decide_eq_false_iff_not] at hp; omega
theorem ref1_NatOf_spec {V : View} {n : Int} (h0 : 0 ≤ n) (h1 : n ≤ 18446744073709551615) :
 CallV Tryz.prog n_ref1_NatOf #[.int .u64 n] V fun v V' => ∃ r : Sl, v = r.v ∧ NatAt V' r n.toNat := by
 refine ref1_NatOf_vc n V _ fun b V1 hle _ hb => ?_
 obtain ⟨m, rfl⟩ : ∃ m : Nat, n = m := ⟨n.toNat, by omega⟩
 rw [fd32, u32n, u32n, Nat.mod_eq_of_lt (show m / 4294967296 < 4294967296 by omega)] at hb
 have hw : Words V1 (Sl.mk (some (Addr.mk b 0 none)) 2 2) [m % 4294967296, m / 4294967296] :=
  Words.of_block (by rw [hb]; rfl) rfl (by omega) (by intro d hd; simp at hd; omega)
 refine (ref1_trim_spec hw (by simp)).mono fun v V' _ ⟨r, hv, hr⟩ => ⟨r, hv, _, rfl, ?_⟩
 have : wval [m % 4294967296, m / 4294967296] = (m : Int).toNat := by simp [wval]; omega
 rw [this] at hr; exact hr
theorem ref1_NatCmp_spec {V : View} {s t : Sl} {a b : Nat} (hs : NatAt V s a) (ht : NatAt V t b) (hb : wn a ≤ 2 ^ 50) :
 CallV Tryz.prog n_ref1_NatCmp #[s.v, t.v] V fun v _ => v = .int .i64 (if a < b then -1 else if a = b then 0 else 1) := by
 have h1 := hs.len
 have h2 := ht.len
 simp only [wn] at hb
 refine ref1_NatCmp_vc s t V _ (fun _ x _ => -1 ≤ x.t5 ∧ x.t5 < s.len ∧ (dig a).drop (x.t5 + 1).toNat = (dig b).drop (x.t5 + 1).toNat) (fun _ x _ => (x.t5 + 1).toNat) ⟨fun hne => ⟨fun hlt => ?_, fun hlt => ?_⟩, fun he => ⟨?_, ?_⟩⟩
 · have := dig_len_lt (a := a) (b := b) (by simpa [h1, h2] using hlt)
   simp [this]
 · have hne : ¬ (s.len : Int) = t.len := by simpa using hne
   have hlt : ¬ s.len < t.len := by simpa using hlt
   have := dig_len_lt (a := b) (b := a) (by omega)
   rw [if_neg (by omega), if_neg (by omega)]
 · have he : (s.len : Int) = t.len := by simpa using he
   rw [i64w (by omega) (by omega)]
   refine ⟨?_, ?_, ?_⟩
   · show (-1 : Int) ≤ s.len - 1; omega
   · show (s.len : Int) - 1 < s.len; omega
   · rw [List.drop_eq_nil_of_le, List.drop_eq_nil_of_le] <;> simp <;> omega
 · have he : (s.len : Int) = t.len := by simpa using he
   rintro ⟨i⟩ V1 hle ⟨i0, i1, hd⟩
   simp only at i0 i1 hd ⊢
   refine ⟨fun hp => ?_, fun hp => ?_⟩
   · simp only [ge_iff_le, decide_eq_true_eq] at hp
     refine ⟨⟨by omega, by omega, hs.isSome (by omega)⟩, _, (hs.le hle).get (by omega) (by omega), ⟨by omega, by omega, ht.isSome (by omega)⟩, _, (ht.le hle).get (by omega) (by omega), fun hne =>
      ⟨⟨by omega, by omega, hs.isSome (by omega)⟩, _, (hs.le hle).get (by omega) (by omega), ⟨by omega, by omega, ht.isSome (by omega)⟩, _, (ht.le hle).get (by omega) (by omega), fun hlt => ?_, fun hge => ?_⟩, fun heq => ?_⟩
     · have hlt : (dig a).getD i.toNat 0 < (dig b).getD i.toNat 0 := by simpa using hlt
       have := wval_lt_of (WB_dig a) (by omega) (i := i.toNat) (by omega) (by rw [show i.toNat + 1 = (i + 1).toNat by omega]; exact hd) hlt
       rw [wval_dig, wval_dig] at this
       simp [this]
     · have hne : ¬ (dig a).getD i.toNat 0 = (dig b).getD i.toNat 0 := by
         intro e; rw [e] at hne; simp at hne
       have hge : ¬ (dig a).getD i.toNat 0 < (dig b).getD i.toNat 0 := by simpa using hge
       have := wval_lt_of (WB_dig b) (by omega) (i := i.toNat) (by omega) (by rw [show i.toNat + 1 = (i + 1).toNat by omega]; exact hd.symm) (by omega : (dig b).getD i.toNat 0 < (dig a).getD i.toNat 0)
       rw [wval_dig, wval_dig] at this
       rw [if_neg (by omega), if_neg (by omega)]
     · have heq : (((dig a).getD i.toNat 0 : Nat) : Int) = (((dig b).getD i.toNat 0 : Nat) : Int) := by simpa using heq
       rw [i64w (by omega) (by omega)]
       refine ⟨⟨by show (-1 : Int) ≤ i - 1; omega, by show i - 1 < (s.len : Int); omega, ?_⟩, by show (i - 1 + 1).toNat < (i + 1).toNat; omega⟩
       have e : (i - 1 + 1).toNat = i.toNat := by omega
       show (dig a).drop (i - 1 + 1).toNat = (dig b).drop (i - 1 + 1).toNat
       rw [e, List.drop_eq_getElem_cons (by omega : i.toNat < (dig a).length), List.drop_eq_getElem_cons (by omega : i.toNat < (dig b).length)]
       have e2 : i.toNat + 1 = (i + 1).toNat := by omega
       rw [e2, hd]
       congr 1
       simp only [List.getD, List.getElem?_eq_getElem (by omega : i.toNat < (dig a).length), List.getElem?_eq_getElem (by omega : i.toNat < (dig b).length), Option.getD_some] at heq
       omega
   · simp only [ge_iff_le, decide_eq_false_iff_not] at hp
     have e : (i + 1).toNat = 0 := by omega
     rw [e] at hd
     have := dig_inj (by simpa using hd)
     subst this
     simp

theorem ref1_natDigit_spec {V : View} {s : Sl} {a d : Nat} (hs : NatAt V s a) (ha : wn a ≤ 2 ^ 45) (hd0 : 0 < d) (hd : d < 4294967296) :
 CallV Tryz.prog n_ref1_natDigit #[s.v, .int .u32 (d : Int)] V fun v V' => ∃ r : Sl, v = .tuple #[r.v, .int .u32 ((a % d : Nat) : Int)] ∧ NatAt V' r (a / d) := by
 have hsl := hs.len
 simp only [wn] at ha
 refine ref1_natDigit_vc s d V _
  (fun _ x _ => ∃ (j k rest : Nat) (l : List Nat), x = L_ref1_natDigit_0.mk (rest : Nat) ((j : Int) - 1) (wv l) ∧ j + k = s.len ∧ WB l ∧ l.length = s.len ∧ rest < d ∧ seg (dig a) j k = seg l j k * d + rest)
  (fun _ x _ => (x.t8 + 1).toNat) ⟨⟨by omega, by omega, by omega, by omega⟩, ⟨s.len, 0, 0, List.replicate s.len 0, ?_, by omega, WB.zeros _, by simp, hd0, by simp [seg_zero]⟩, ?_⟩
 · rw [i64w (by omega) (by omega), Int.toNat_natCast, wv_zeros]; rfl
 rintro _ V1 hle ⟨j, k, rest, l, rfl, hjk, hwb, hl, hr, hval⟩
 refine ⟨fun hp => ?_, fun hp b1 V3 hle3 hb1 => ?_⟩
 · simp only [ge_iff_le, decide_eq_true_eq] at hp
   obtain ⟨i, rfl⟩ : ∃ i, j = i + 1 := ⟨j - 1, by omega⟩
   simp only [show (((i + 1 : Nat) : Int) - 1) = (i : Nat) by omega, Int.toNat_natCast]
   have hw := (WB_dig a).getD i
   have h1 : (rest * 4294967296 + (dig a).getD i 0) / d < 4294967296 := by
    rw [Nat.div_lt_iff_lt_mul (by omega)]
    have := Nat.mul_le_mul_right 4294967296 (Nat.succ_le_of_lt hr)
    rw [Nat.succ_mul] at this
    omega
   have h2 : (rest * 4294967296 + (dig a).getD i 0) % d < d := Nat.mod_lt _ (by omega)
   have e : (2 : Int) ^ (min (Int.toNat 32) (IntKind.u64.bits)) = 4294967296 := by decide
   refine ⟨⟨by omega, by omega, hs.isSome (by omega)⟩, _, (hs.le hle).get (i := (i : Nat)) (by omega) (by omega), ?_⟩
   simp only [Int.toNat_natCast]
   rw [u64n (z := d) (by omega), u64n (z := (dig a).getD i 0) (by omega), e, show (rest : Int) * 4294967296 = ((rest * 4294967296 : Nat) : Int) by omega, u64n (z := rest * 4294967296) (by omega), or64 hw (by omega),
    u64n (z := rest * 4294967296 + (dig a).getD i 0) (by omega), ← Int.ofNat_tdiv, ← Int.ofNat_tmod, u64n (by omega), u32n, Nat.mod_eq_of_lt h1, i64w (by omega) (by omega), show 0 + i * 1 = i by omega, wv_set]
   refine ⟨by omega, ⟨by omega, by omega⟩, by rw [wv_length]; omega, by omega, ⟨i, k + 1, _, _, rfl, by omega, hwb.set h1, by simpa using hl, Nat.mod_lt _ hd0, ?_⟩, by show ((i : Int) - 1 + 1).toNat < ((i : Int) + 1).toNat; omega⟩
   rw [Nat.add_comm k 1, seg_split, seg_split _ i 1 k, hval, seg_set_out (j := i + 1) (by omega), seg_succ, seg_succ, seg_zero, seg_zero, Nat.add_zero, getD_set, if_pos ⟨rfl, by omega⟩]
   have := Nat.div_add_mod (rest * 4294967296 + (dig a).getD i 0) d
   generalize (rest * 4294967296 + (dig a).getD i 0) / d = q at *
   generalize (rest * 4294967296 + (dig a).getD i 0) % d = m at *
   simp only [Nat.pow_zero, Nat.mul_one, Nat.pow_one, Nat.zero_add, Nat.mul_add, Nat.add_mul]
   have e2 : 4294967296 * (seg l (i + 1) k * d) = 4294967296 * seg l (i + 1) k * d := by rw [Nat.mul_assoc]
   have e3 : q * d = d * q := Nat.mul_comm _ _
   omega
 · simp only [ge_iff_le, decide_eq_false_iff_not] at hp
   have hj : j = 0 := by omega
   subst hj
   have hk : k = s.len := by omega
   subst hk
   have hw : Words V3 (Sl.mk (some (Addr.mk b1 0 none)) (Int.toNat (s.len : Int)) (Int.toNat (s.len : Int))) l := Words.of_block hb1 (by omega) (Nat.le_refl _) hwb
   rw [seg_all (by omega), seg_all (by omega), wval_dig] at hval
   have e1 : a / d = wval l := by rw [hval, Nat.mul_comm, Nat.mul_add_div hd0, Nat.div_eq_of_lt hr]; omega
   have e2 : a % d = rest := by rw [hval, Nat.mul_comm, Nat.mul_add_mod, Nat.mod_eq_of_lt hr]
   refine (ref1_trim_spec hw (by omega)).mono fun v V6 _ ⟨r, hv, hr⟩ => ⟨r, hv, r, ?_, ?_⟩
   · rw [e2, u32n, Nat.mod_eq_of_lt (by omega)]
   · rw [e1]; exact hr
theorem bl_half {x : Nat} (h : x ≠ 0) : bl x = bl (x / 2) + 1 := by
 by_cases h1 : x = 1
 · subst h1; decide
 · have := bl_div (m := x) 1 (by omega)
   simpa using this
theorem ref1_NatBits_spec {V : View} {s : Sl} {a : Nat} (hs : NatAt V s a) (ha : wn a ≤ 2 ^ 45) :
 CallV Tryz.prog n_ref1_NatBits #[s.v] V fun v _ => v = .int .i64 (bl a : Nat) := by
 have hsl := hs.len
 have hwn : wn a = s.len := by simp only [wn]; exact hsl.symm
 refine ref1_NatBits_vc s V _ (fun _ x _ => ∃ k y : Nat, x = L_ref1_NatBits_0.mk (k : Nat) (y : Nat) ∧ k + bl y = bl ((dig a).getD (wn a - 1) 0) ∧ k ≤ 32) (fun _ x _ => x.t4.toNat) ⟨fun h => ?_, fun h => ?_⟩
 · have h : (s.len : Int) = 0 := by simpa using h
   have : a = 0 := wn_eq_zero.1 (by omega)
   subst this; rfl
 · have h : ¬ (s.len : Int) = 0 := by simpa using h
   have ha0 : a ≠ 0 := by rintro rfl; rw [wn_zero] at hwn; omega
   rw [i64w (n := (s.len : Int) - 1) (by omega) (by omega)]
   have e : Int.toNat ((s.len : Int) - 1) = wn a - 1 := by omega
   have h2 := bl_wn ha0
   have h3 : bl ((dig a).getD (wn a - 1) 0) ≤ 32 := by
    have h3 := (top_bounds ha0).2.2
    have := bl_le h3
    have := (WB_dig a).getD (wn a - 1)
    have := (Nat.pow_lt_pow_iff_right (a := 2) (n := bl ((dig a).getD (wn a - 1) 0) - 1) (m := 32) (by omega)).1 (by omega)
    omega
   refine ⟨⟨by omega, by omega, hs.isSome (by omega)⟩, _, hs.get (by omega) (by omega), ⟨0, _, rfl, by rw [e]; omega, by omega⟩, ?_⟩
   rintro _ V1 l1 ⟨k, y, rfl, hk, hk2⟩
   refine ⟨fun hp => ?_, fun hp => ?_⟩
   · simp only [gt_iff_lt, decide_eq_true_eq] at hp
     have hb := bl_half (x := y) (by omega)
     have e1 : Int.fdiv (y : Int) (2 ^ (min (Int.toNat 1) (IntKind.u32.bits))) = ((y / 2 : Nat) : Int) := by
      have e2 : (2 : Int) ^ (min (Int.toNat 1) (IntKind.u32.bits)) = 2 := by decide
      rw [e2, Int.fdiv_eq_ediv_of_nonneg _ (by omega)]; omega
     simp only []
     rw [e1, i64w (by omega) (by omega)]
     exact ⟨⟨k + 1, y / 2, rfl, by omega, by omega⟩, by show ((y / 2 : Nat) : Int).toNat < (y : Int).toNat; omega⟩
   · simp only [gt_iff_lt, decide_eq_false_iff_not] at hp
     have hy : y = 0 := by omega
     subst hy
     rw [bl_zero] at hk
     simp only []
     rw [i64w (n := 32 * _) (by omega) (by omega), i64w (by omega) (by omega)]
     congr 1
     omega
theorem ref1_NatShl_spec {V : View} {s : Sl} {a n : Nat} (hs : NatAt V s a) (ha : wn a ≤ 2 ^ 44) (hn : n ≤ 2 ^ 44) :
 CallV Tryz.prog n_ref1_NatShl #[s.v, .int .i64 (n : Int)] V fun v V' => ∃ r : Sl, v = r.v ∧ NatAt V' r (a * 2 ^ n) := by
 have hsl := hs.len
 have hs0 : s.len = 0 → a = 0 := fun h => wn_eq_zero.1 (by simp only [wn]; omega)
 simp only [wn] at ha
 obtain ⟨W, hW⟩ : ∃ W, W = n / 32 := ⟨_, rfl⟩
 obtain ⟨R, hR⟩ : ∃ R, R = 2 ^ (n % 32) := ⟨_, rfl⟩
 have hR1 : R ≤ 2147483648 := by rw [hR]; exact Nat.pow_le_pow_right (by omega) (show n % 32 ≤ 31 by omega)
 obtain ⟨Q, hQ⟩ : ∃ Q, R * Q = 4294967296 := ⟨2 ^ (32 - n % 32), by rw [hR, ← Nat.pow_add, show n % 32 + (32 - n % 32) = 32 by omega]⟩
 refine ref1_NatShl_vc s n V _
  (fun _ x _ => ∃ (i : Nat) (l : List Nat), x = L_ref1_NatShl_0.mk (i : Nat) (wv l) ∧ i ≤ s.len ∧ WB l ∧ l.length = s.len + W + 1 ∧ seg l 0 (i + W + 1) = wval ((dig a).take i) * R * 4294967296 ^ W ∧ l.getD (i + W) 0 < R)
  (fun _ x _ => (s.len - x.t6).toNat)
  ⟨fun h => ⟨_, rfl, by have h : (s.len : Int) = 0 := (by simpa using h); have := hs0 (by omega); subst this; rw [Nat.zero_mul]; exact NatAt.zero V⟩, fun _ => ?_⟩
 rw [td32, tm32, ← hW, i64w (n := (W : Int)) (by omega) (by omega), i64w (n := (s.len : Int) + W) (by omega) (by omega), i64w (n := (s.len : Int) + W + 1) (by omega) (by omega),
  u64w (n := ((n % 32 : Nat) : Int)) (by omega) (by omega), Int.toNat_natCast, shp64 (show n % 32 ≤ 64 by omega), ← hR]
 have hN : Int.toNat ((s.len : Int) + W + 1) = s.len + W + 1 := by omega
 rw [hN]
 refine ⟨⟨by omega, by omega, by omega, by omega⟩, ⟨0, List.replicate (s.len + W + 1) 0, ?_, by omega, WB.zeros _, by simp, ?_, ?_⟩, ?_⟩
 · rw [wv_zeros]; rfl
 · rw [seg_rep]; simp [wval]
 · have : (List.replicate (s.len + W + 1) 0).getD (0 + W) 0 = 0 := by simp only [List.getD, List.getElem?_replicate]; split <;> rfl
   rw [this, hR]; exact Nat.two_pow_pos _
 rintro _ V2 hle2 ⟨i, l, rfl, hi, hwb, hl, hval, hlt⟩
 refine ⟨fun hp => ?_, fun hp b1 V4 hle4 hb1 => ?_⟩
 · simp only [decide_eq_true_eq] at hp
   have hai := (WB_dig a).getD i
   have hW2 := hwb.getD (i + W)
   simp only [Int.toNat_natCast]
   rw [i64w (n := (i : Int) + W) (by omega) (by omega), i64w (n := (i : Int) + W + 1) (by omega) (by omega), i64w (n := (i : Int) + 1) (by omega) (by omega)]
   have e1 : Int.toNat ((i : Int) + W) = i + W := by omega
   have e2 : Int.toNat ((i : Int) + W + 1) = i + W + 1 := by omega
   rw [e1, e2, show 0 + (i + W) * 1 = i + W by omega, show 0 + (i + W + 1) * 1 = i + W + 1 by omega]
   refine ⟨⟨by omega, hp, hs.isSome (by omega)⟩, _, (hs.le hle2).get (i := (i : Nat)) (by omega) hp, by omega, ⟨by omega, by omega⟩, ((l.getD (i + W) 0 : Nat) : Int), wv_get (by omega), ⟨by omega, by omega⟩, by rw [wv_length]; omega, ⟨by omega, by omega⟩, by simp only [List.length_set, wv_length]; omega, ?_⟩
   simp only [Int.toNat_natCast]
   generalize hA : (dig a).getD i 0 = A at *
   have hm : A * R ≤ 4294967295 * 2147483648 := Nat.mul_le_mul (by omega) hR1
   rw [u64w (n := (A : Int)) (by omega) (by omega), ← Int.natCast_mul, u64w (n := ((A * R : Nat) : Int)) (by omega) (by omega)]
   have e3 : (2 : Int) ^ (min (Int.toNat 32) (IntKind.u64.bits)) = 4294967296 := by decide
   rw [e3, Int.fdiv_eq_ediv_of_nonneg _ (by omega)]
   have e4 : IntKind.u32.wrap (((A * R : Nat) : Int) / 4294967296) = ((A * R / 4294967296 : Nat) : Int) := by rw [u32w (by omega) (by omega)]; omega
   have e5 : IntKind.u32.wrap ((A * R : Nat) : Int) = ((A * R % 4294967296 : Nat) : Int) := by rw [u32m]; omega
   have e6 : A * R % 4294967296 = (A % Q) * R := by
    rw [← hQ, Nat.mul_comm A R, Nat.mul_mod_mul_left, Nat.mul_comm]
   have hhi : A * R / 4294967296 < R := by
    rw [Nat.div_lt_iff_lt_mul (by omega), Nat.mul_comm]
    exact Nat.mul_lt_mul_of_pos_left (by omega) (by rw [hR]; exact Nat.two_pow_pos _)
   have hlo : l.getD (i + W) 0 + A * R % 4294967296 < 4294967296 := by
    rw [e6]
    have h0 : 0 < Q := by
     rcases Nat.eq_zero_or_pos Q with h | h
     · subst h; simp at hQ
     · exact h
    have h1 : A % Q + 1 ≤ Q := Nat.mod_lt _ h0
    have h2 := Nat.mul_le_mul_right R h1
    rw [Nat.succ_mul, Nat.mul_comm Q R, hQ] at h2
    omega
   rw [e4, e5, or32v hW2 (Nat.mod_lt _ (by omega)), e6]
   have hor : (l.getD (i + W) 0 ||| A % Q * R) = l.getD (i + W) 0 + A % Q * R := by
    rw [hR] at hlt ⊢; exact orDisj hlt
   rw [hor, ← e6, u32w (by omega) (by omega), wv_set, wv_set]
   refine ⟨⟨i + 1, (l.set (i + W) (l.getD (i + W) 0 + A * R % 4294967296)).set (i + W + 1) (A * R / 4294967296), rfl, by omega, (hwb.set (by omega)).set (by omega), by simpa using hl, ?_, ?_⟩, by show ((s.len : Int) - ((i : Int) + 1)).toNat < ((s.len : Int) - i).toNat; omega⟩
   · rw [show i + 1 + W + 1 = (i + W + 1) + 1 by omega, seg_set_last (by omega) (by simp; omega)]
     have h1 := seg_set (l := l) (p := i + W) (d := l.getD (i + W) 0 + A * R % 4294967296) (j := 0) (k := i + W + 1) (by omega) (by omega) (by omega)
     rw [Nat.sub_zero, hval] at h1
     rw [wval_take_succ, hA, Nat.pow_succ]
     have h2 : A * R % 4294967296 + A * R / 4294967296 * 4294967296 = A * R := by omega
     have h3 := congrArg (· * 4294967296 ^ (i + W)) h2
     simp only [Nat.add_mul] at h1 h3 ⊢
     have h4 : A * 4294967296 ^ i * R * 4294967296 ^ W = A * R * 4294967296 ^ (i + W) := by rw [Nat.pow_add]; grind
     have h5 : ∀ q, q * (4294967296 ^ (i + W) * 4294967296) = q * 4294967296 * 4294967296 ^ (i + W) := by intro q; grind
     rw [h4, h5]
     omega
   · rw [getD_set, if_pos ⟨by omega, by simp; omega⟩]; exact hhi
 · simp only [decide_eq_false_iff_not] at hp
   have hi' : i = s.len := by omega
   subst hi'
   rw [seg_all (by omega), wval_take_all (l := dig a) (by omega), wval_dig] at hval
   have hw : Words V4 (Sl.mk (some (Addr.mk b1 0 none)) (s.len + W + 1) (s.len + W + 1)) l := Words.of_block hb1 (by omega) (Nat.le_refl _) hwb
   refine (ref1_trim_spec hw (by omega)).mono fun v V6 _ ⟨r, hv, hr⟩ => ⟨r, hv, r, rfl, ?_⟩
   rw [hval, Nat.mul_assoc, hR, hW, ← pow_words] at hr; exact hr
theorem ref1_NatShr_spec {V : View} {s : Sl} {a n : Nat} (hs : NatAt V s a) (ha : wn a ≤ 2 ^ 44) (hn : n ≤ 2 ^ 44) :
 CallV Tryz.prog n_ref1_NatShr #[s.v, .int .i64 (n : Int)] V fun v V' => ∃ r : Sl, v = r.v ∧ NatAt V' r (a / 2 ^ n) := by
 have hsl := hs.len
 have hwn : wn a = s.len := by simp only [wn]; exact hsl.symm
 have haw := lt_wn a
 rw [hwn] at ha haw
 obtain ⟨W, hW⟩ : ∃ W, W = n / 32 := ⟨_, rfl⟩
 obtain ⟨R, hR⟩ : ∃ R, R = 2 ^ (n % 32) := ⟨_, rfl⟩
 have hR0 : 0 < R := by rw [hR]; exact Nat.two_pow_pos _
 obtain ⟨Q, hQ⟩ : ∃ Q, R * Q = 4294967296 := ⟨2 ^ (32 - n % 32), by rw [hR, ← Nat.pow_add, show n % 32 + (32 - n % 32) = 32 by omega]⟩
 have hpow : 2 ^ n = 4294967296 ^ W * R := by rw [hR, hW, Nat.mul_comm, ← pow_words]
 refine ref1_NatShr_vc s n V _
  (fun _ x _ => ∃ (i : Nat) (l : List Nat), x = L_ref1_NatShr_0.mk (i : Nat) (wv l) ∧ i ≤ s.len - W ∧ WB l ∧ l.length = s.len - W ∧ seg l 0 i = a / 2 ^ n % 4294967296 ^ i)
  (fun _ x _ => (s.len - x.t6).toNat) ?_
 rw [td32, tm32, ← hW, i64w (n := (W : Int)) (by omega) (by omega)]
 refine ⟨fun h => ⟨_, rfl, ?_⟩, fun h => ?_⟩
 · simp only [ge_iff_le, decide_eq_true_eq] at h
   have : a / 2 ^ n = 0 := by
    refine Nat.div_eq_of_lt (Nat.lt_of_lt_of_le haw ?_)
    rw [hpow]
    have h1 : 4294967296 ^ s.len ≤ 4294967296 ^ W := Nat.pow_le_pow_right (by omega) (by omega)
    have := Nat.mul_le_mul_left (4294967296 ^ W) hR0
    omega
   rw [this]; exact NatAt.zero V
 simp only [ge_iff_le, decide_eq_false_iff_not] at h
 rw [i64w (n := (s.len : Int) - W) (by omega) (by omega), u64w (n := ((n % 32 : Nat) : Int)) (by omega) (by omega), Int.toNat_natCast, shp64 (show n % 32 ≤ 64 by omega), ← hR]
 have hN : Int.toNat ((s.len : Int) - W) = s.len - W := by omega
 rw [hN]
 refine ⟨⟨by omega, by omega, by omega, by omega⟩, ⟨0, List.replicate (s.len - W) 0, ?_, by omega, WB.zeros _, by simp, ?_⟩, ?_⟩
 · rw [wv_zeros]; rfl
 · simp [seg_zero, Nat.mod_one]
 rintro _ V2 hle2 ⟨i, l, rfl, hi, hwb, hl, hval⟩
 refine ⟨fun hp => ?_, fun hp b1 V4 hle4 hb1 => ?_⟩
 · simp only [decide_eq_true_eq] at hp
   simp only [Int.toNat_natCast]
   rw [i64w (n := (i : Int) + W) (by omega) (by omega), i64w (n := (i : Int) + W + 1) (by omega) (by omega), i64w (n := (i : Int) + 1) (by omega) (by omega)]
   have w1 := (WB_dig a).getD (W + i)
   have w2 := (WB_dig a).getD (W + i + 1)
   have e1 : Int.toNat ((i : Int) + W) = W + i := by omega
   have e2 : Int.toNat ((i : Int) + W + 1) = W + i + 1 := by omega
   have e3 : (2 : Int) ^ (min (Int.toNat 32) (IntKind.u64.bits)) = 4294967296 := by decide
   have word := shr_word (a := a) (W := W) (i := i) hQ hR0
   rw [← hpow] at word
   have step : ∀ z : Nat, z = (dig a).getD (W + i) 0 + 4294967296 * (dig a).getD (W + i + 1) 0 →
    (∃ (i' : Nat) (l' : List Nat), L_ref1_NatShr_0.mk ((i : Int) + 1) ((wv l).set (0 + i * 1) (.int .u32 (IntKind.u32.wrap (Int.fdiv (z : Int) (R : Nat))))) = L_ref1_NatShr_0.mk (i' : Nat) (wv l') ∧ i' ≤ s.len - W ∧ WB l' ∧ l'.length = s.len - W ∧ seg l' 0 i' = a / 2 ^ n % 4294967296 ^ i') := by
    intro z hz
    have ez : IntKind.u32.wrap (Int.fdiv (z : Int) (R : Nat)) = ((a / 2 ^ n / 4294967296 ^ i % 4294967296 : Nat) : Int) := by
     rw [Int.fdiv_eq_ediv_of_nonneg _ (by omega), u32m, ← word, ← hz]; rfl
    rw [ez, show 0 + i * 1 = i by omega, wv_set]
    refine ⟨i + 1, _, rfl, by omega, hwb.set (Nat.mod_lt _ (by omega)), by simpa using hl, ?_⟩
    rw [seg_set_last (by omega) (by omega), hval, Nat.pow_succ, Nat.mod_mul, Nat.mul_comm (4294967296 ^ i)]
   have hme : ((s.len : Int) - ((i : Int) + 1)).toNat < ((s.len : Int) - i).toNat := by omega
   have g1 := (hs.le hle2).get (i := (i : Int) + W) (by omega) (by omega)
   rw [e1] at g1 ⊢
   refine ⟨⟨by omega, by omega, hs.isSome (by omega)⟩, _, g1, fun hq => ?_, fun hq => ?_⟩
   · simp only [decide_eq_true_eq] at hq
     have g2 := (hs.le hle2).get (i := (i : Int) + W + 1) (by omega) (by omega)
     rw [e2] at g2 ⊢
     refine ⟨⟨by omega, by omega, hs.isSome (by omega)⟩, _, g2, by omega, ⟨by omega, by omega⟩, by rw [wv_length]; omega, ?_⟩
     rw [e3, u64w (n := (((dig a).getD (W + i) 0 : Nat) : Int)) (by omega) (by omega), u64w (n := (((dig a).getD (W + i + 1) 0 : Nat) : Int)) (by omega) (by omega), u64w (n := (((dig a).getD (W + i + 1) 0 : Nat) : Int) * 4294967296) (by omega) (by omega),
      show (((dig a).getD (W + i + 1) 0 : Nat) : Int) * 4294967296 = (((dig a).getD (W + i + 1) 0 * 4294967296 : Nat) : Int) by omega, or64' w1 w2, u64w (by omega) (by omega)]
     exact ⟨step _ (by omega), hme⟩
   · simp only [decide_eq_false_iff_not] at hq
     refine ⟨by omega, ⟨by omega, by omega⟩, by rw [wv_length]; omega, ?_⟩
     rw [u64w (n := (((dig a).getD (W + i) 0 : Nat) : Int)) (by omega) (by omega)]
     have h0 : (dig a).getD (W + i + 1) 0 = 0 := by simp only [List.getD]; rw [List.getElem?_eq_none (by omega)]; rfl
     exact ⟨step _ (by omega), hme⟩
 · simp only [decide_eq_false_iff_not] at hp
   have hi' : i = s.len - W := by omega
   subst hi'
   have hw : Words V4 (Sl.mk (some (Addr.mk b1 0 none)) (s.len - W) (s.len - W)) l := Words.of_block hb1 (by omega) (Nat.le_refl _) hwb
   refine (ref1_trim_spec hw (by omega)).mono fun v V6 _ ⟨r, hv, hr⟩ => ⟨r, hv, r, rfl, ?_⟩
   rw [seg_all (by omega)] at hval
   have hlt : a / 2 ^ n < 4294967296 ^ (s.len - W) := by
    rw [hpow, ← Nat.div_div_eq_div_mul]
    refine Nat.lt_of_le_of_lt (Nat.div_le_self _ _) ?_
    rw [Nat.div_lt_iff_lt_mul (Nat.pow_pos (by omega)), ← Nat.pow_add, show s.len - W + W = s.len by omega]
    exact haw
   rw [hval, Nat.mod_eq_of_lt hlt] at hr; exact hr

theorem and32 (P : Nat) (h : P < 18446744073709551616) : BitVec.toNat ((BitVec.ofInt IntKind.u64.bits (P : Int)) &&& (BitVec.ofInt IntKind.u64.bits 4294967295)) = P % 4294967296 := by
 rw [BitVec.toNat_and]
 have e1 : (BitVec.ofInt IntKind.u64.bits (P : Int)).toNat = P := of64 h
 have e2 : (BitVec.ofInt IntKind.u64.bits 4294967295).toNat = 2 ^ 32 - 1 := by decide
 rw [e1, e2, Nat.and_two_pow_sub_one_eq_mod]
structure TakeI (X vN n m j g i cr bo : Nat) (u qd u0 : List Nat) : Prop where
 div : DivI X vN n m (j + 1) u0 qd
 n2 : 2 ≤ n
 nm : n ≤ m
 wn : wn vN = n
 g32 : g < 4294967296
 ge : seg u0 j (n + 1) / vN ≤ g
 gl : (g - 1) * vN ≤ seg u0 j (n + 1)
 i_le : i ≤ n
 wu : WB u
 lu : u.length = m
 cr32 : cr < 4294967296
 bo1 : bo ≤ 1
 out : ∀ p, p < j ∨ j + i ≤ p → u.getD p 0 = u0.getD p 0
 val : seg u j i + g * wval ((dig vN).take i) = seg u0 j i + (cr + bo) * 4294967296 ^ i
structure BackI (X vN n m j g k cr : Nat) (u qd u0 l' : List Nat) : Prop where
 div : DivI X vN n m (j + 1) u0 qd
 n2 : 2 ≤ n
 nm : n ≤ m
 wn : wn vN = n
 wl : WB l'
 ll : l'.length = m
 out : ∀ i, i < j ∨ j + n < i → l'.getD i 0 = u0.getD i 0
 eq : seg l' j (n + 1) + g * vN = seg u0 j (n + 1) + 4294967296 ^ (n + 1)
 g32 : g < 4294967296
 ge : seg u0 j (n + 1) / vN ≤ g
 gl : (g - 1) * vN ≤ seg u0 j (n + 1)
 k_le : k ≤ n
 cr1 : cr ≤ 1
 wu : WB u
 lu : u.length = m
 out2 : ∀ i, i < j ∨ j + k ≤ i → u.getD i 0 = l'.getD i 0
 val : seg u j k + cr * 4294967296 ^ k = seg l' j k + seg (dig vN) 0 k
theorem TakeI.jn {X vN n m j g i cr bo : Nat} {u qd u0 : List Nat} (h : TakeI X vN n m j g i cr bo u qd u0) : j + n < m := by
 have := h.div.jl
 have := h.nm
 omega
theorem BackI.jn {X vN n m j g i cr : Nat} {u qd u0 l' : List Nat} (h : BackI X vN n m j g i cr u qd u0 l') : j + n < m := by
 have := h.div.jl
 have := h.nm
 omega
theorem wn_pos {vN n : Nat} (h : wn vN = n) (hn : 2 ≤ n) : 0 < vN := by
 rcases Nat.eq_zero_or_pos vN with h0 | h0
 · subst h0; rw [wn_zero] at h; omega
 · exact h0
theorem TakeI.step {X vN n m j g i cr bo : Nat} {u qd u0 : List Nat} (h : TakeI X vN n m j g i cr bo u qd u0) (hi : i < n) :
 ∃ low br c : Nat, IntKind.u32.wrap (IntKind.u64.wrap ((IntKind.u64.wrap ((IntKind.u64.wrap ((u.getD (j + i) 0 : Nat) : Int)) - (IntKind.u64.wrap ((BitVec.toNat ((BitVec.ofInt IntKind.u64.bits (IntKind.u64.wrap ((IntKind.u64.wrap ((g : Int) * (IntKind.u64.wrap (((dig vN).getD i 0 : Nat) : Int)))) + (cr : Int)))) &&& (BitVec.ofInt IntKind.u64.bits 4294967295)) : Nat) : Int)))) - (bo : Int))) = (low : Int) ∧
  Int.fdiv (IntKind.u64.wrap ((IntKind.u64.wrap ((IntKind.u64.wrap ((u.getD (j + i) 0 : Nat) : Int)) - (IntKind.u64.wrap ((BitVec.toNat ((BitVec.ofInt IntKind.u64.bits (IntKind.u64.wrap ((IntKind.u64.wrap ((g : Int) * (IntKind.u64.wrap (((dig vN).getD i 0 : Nat) : Int)))) + (cr : Int)))) &&& (BitVec.ofInt IntKind.u64.bits 4294967295)) : Nat) : Int)))) - (bo : Int))) 9223372036854775808 = (br : Int) ∧
  Int.fdiv (IntKind.u64.wrap ((IntKind.u64.wrap ((g : Int) * (IntKind.u64.wrap (((dig vN).getD i 0 : Nat) : Int)))) + (cr : Int))) 4294967296 = (c : Int) ∧
  TakeI X vN n m j g (i + 1) c br (u.set (j + i) low) qd u0 := by
 have hjn := h.jn
 have hvi := (WB_dig vN).getD i
 have hui := h.wu.getD (j + i)
 have hlu := h.lu
 have hc := h.cr32
 have hm' := mul_word h.g32 hvi
 have hu0 : u0.getD (j + i) 0 = u.getD (j + i) 0 := (h.out (j + i) (by omega)).symm
 generalize hA : (dig vN).getD i 0 = A at *
 generalize hU : u.getD (j + i) 0 = U at *
 obtain ⟨P, hP⟩ : ∃ P, P = g * A + cr := ⟨_, rfl⟩
 rw [u64w (n := (A : Int)) (by omega) (by omega), ← Int.natCast_mul, u64w (n := ((g * A : Nat) : Int)) (by omega) (by omega), u64w (n := ((g * A : Nat) : Int) + cr) (by omega) (by omega),
  show ((g * A : Nat) : Int) + cr = (P : Nat) by omega, and32 P (by omega), u64w (n := ((P % 4294967296 : Nat) : Int)) (by omega) (by omega), u64w (n := (U : Int)) (by omega) (by omega), Int.fdiv_eq_ediv_of_nonneg (P : Int) (by omega),
  show (P : Int) / 4294967296 = ((P / 4294967296 : Nat) : Int) by omega]
 obtain ⟨low, br, h1, h2, h3, h4, h5⟩ := borrow_word hui (Nat.mod_lt P (by omega : 0 < 4294967296)) h.bo1
 refine ⟨low, br, _, h4, h5, rfl, h.div, h.n2, h.nm, h.wn, h.g32, h.ge, h.gl, hi, h.wu.set h1, by simpa using hlu, by omega, h2, ?_, ?_⟩
 · intro p hp
   rw [getD_set, if_neg (by omega)]; exact h.out p (by omega)
 · have hval := h.val
   rw [seg_set_last rfl (by omega), seg_succ, wval_take_succ, hA, hu0, Nat.pow_succ]
   have h6 : low + g * A + cr + bo = U + (P / 4294967296 + br) * 4294967296 := by
    have := Nat.div_add_mod P 4294967296
    omega
   have h7 := congrArg (· * 4294967296 ^ i) h6
   simp only [Nat.add_mul] at h7 hval ⊢
   have h8 : g * (wval (List.take i (dig vN)) + A * 4294967296 ^ i) = g * wval (List.take i (dig vN)) + g * A * 4294967296 ^ i := by rw [Nat.mul_add, Nat.mul_assoc]
   have h9 : ∀ z, z * (4294967296 ^ i * 4294967296) = z * 4294967296 * 4294967296 ^ i := by intro z; grind
   rw [h8, h9, h9]
   omega
theorem TakeI.last {X vN n m j g cr bo : Nat} {u qd u0 : List Nat} (h : TakeI X vN n m j g n cr bo u qd u0) :
 ∃ low br : Nat, IntKind.u32.wrap (IntKind.u64.wrap ((IntKind.u64.wrap ((IntKind.u64.wrap ((u.getD (j + n) 0 : Nat) : Int)) - (cr : Int))) - (bo : Int))) = (low : Int) ∧
  Int.fdiv (IntKind.u64.wrap ((IntKind.u64.wrap ((IntKind.u64.wrap ((u.getD (j + n) 0 : Nat) : Int)) - (cr : Int))) - (bo : Int))) 9223372036854775808 = (br : Int) ∧ (u.set (j + n) low).length = m ∧
  (br = 1 → BackI X vN n m j g 0 0 (u.set (j + n) low) qd u0 (u.set (j + n) low) ∧ 0 < g) ∧ (br ≠ 1 → DivI X vN n m j (u.set (j + n) low) (qd.set j g)) := by
 have hjn := h.jn
 have hui := h.wu.getD (j + n)
 have hlu := h.lu
 have hu0 : u0.getD (j + n) 0 = u.getD (j + n) 0 := (h.out (j + n) (by omega)).symm
 generalize hU : u.getD (j + n) 0 = U at *
 obtain ⟨low, br, h1, h2, h3, h4, h5⟩ := borrow_word hui h.cr32 h.bo1
 rw [u64w (n := (U : Int)) (by omega) (by omega)]
 refine ⟨low, br, h4, h5, ?_⟩
 obtain ⟨l', hl'⟩ : ∃ l', l' = u.set (j + n) low := ⟨_, rfl⟩
 rw [← hl']
 have hwl' : WB l' := by rw [hl']; exact h.wu.set h1
 have hll' : l'.length = m := by rw [hl']; simpa using hlu
 have hout : ∀ p, p < j ∨ j + n < p → l'.getD p 0 = u0.getD p 0 := by
  intro p hp
  rw [hl', getD_set, if_neg (by omega)]; exact h.out p (by omega)
 have hwv := h.wn
 have hvpos := wn_pos hwv h.n2
 have heq : seg l' j (n + 1) + g * vN = seg u0 j (n + 1) + br * 4294967296 ^ (n + 1) := by
  have hval := h.val
  rw [wval_take_all (l := dig vN) (Nat.le_of_eq hwv), wval_dig] at hval
  rw [hl', seg_set_last rfl (by omega), seg_succ, hu0, Nat.pow_succ]
  have h7 := congrArg (· * 4294967296 ^ n) h3
  simp only [Nat.add_mul] at h7 hval
  have h9 : br * (4294967296 ^ n * 4294967296) = br * 4294967296 * 4294967296 ^ n := by grind
  rw [h9]
  omega
 have hlt1 := seg_lt hwl' j (n + 1)
 refine ⟨hll', fun hb => ?_, fun hb => ?_⟩
 · rw [hb, Nat.one_mul] at heq
   refine ⟨⟨h.div, h.n2, h.nm, hwv, hwl', hll', hout, heq, h.g32, h.ge, h.gl, by omega, by omega, hwl', hll', fun _ _ => rfl, by simp [seg_zero]⟩, ?_⟩
   rcases Nat.eq_zero_or_pos g with h0 | h0
   · exfalso; subst h0; omega
   · exact h0
 · have hb0 : br = 0 := by omega
   rw [hb0, Nat.zero_mul, Nat.add_zero] at heq
   have G9 := guess_of h.div.wu h.n2 hwv h.div.lt
   have hcase := Guess.le_of G9 h.ge h.gl
   have hvlt : vN < 4294967296 ^ n := by rw [← hwv]; exact lt_wn vN
   obtain ⟨W9, hW9⟩ : ∃ W9, W9 = seg u0 j (n + 1) := ⟨_, rfl⟩
   rw [← hW9] at hcase heq
   have hWm : W9 % vN < vN := Nat.mod_lt _ hvpos
   have hWd := Nat.div_add_mod W9 vN
   have hgq : g = W9 / vN := by
    rcases hcase with h | h
    · exact h
    · exfalso; rw [h, Nat.succ_mul, Nat.mul_comm] at heq; omega
   have hgm : g * vN = vN * (W9 / vN) := by rw [hgq, Nat.mul_comm]
   have hR : seg l' j (n + 1) = W9 % vN := by omega
   refine h.div.next h.nm (R := W9 % vN) (by rw [← hW9]; omega) hWm h.g32 hwl' hll' ?_ (seg_top hR (by omega))
   exact seg_ext fun i _ hi => hout i (by omega)
theorem BackI.step {X vN n m j g k cr : Nat} {u qd u0 l' : List Nat} (h : BackI X vN n m j g k cr u qd u0 l') (hk : k < n) :
 ∃ low c : Nat, IntKind.u32.wrap (IntKind.u64.wrap ((IntKind.u64.wrap ((IntKind.u64.wrap ((u.getD (j + k) 0 : Nat) : Int)) + (IntKind.u64.wrap (((dig vN).getD k 0 : Nat) : Int)))) + (cr : Int))) = (low : Int) ∧
  Int.fdiv (IntKind.u64.wrap ((IntKind.u64.wrap ((IntKind.u64.wrap ((u.getD (j + k) 0 : Nat) : Int)) + (IntKind.u64.wrap (((dig vN).getD k 0 : Nat) : Int)))) + (cr : Int))) 4294967296 = (c : Int) ∧
  BackI X vN n m j g (k + 1) c (u.set (j + k) low) qd u0 l' := by
 have hjn := h.jn
 have hA := (WB_dig vN).getD k
 have hU := h.wu.getD (j + k)
 have hlu := h.lu
 have hcr := h.cr1
 have hL : l'.getD (j + k) 0 = u.getD (j + k) 0 := (h.out2 (j + k) (by omega)).symm
 generalize hA' : (dig vN).getD k 0 = A at *
 generalize hU' : u.getD (j + k) 0 = U at *
 rw [u64w (n := (U : Int)) (by omega) (by omega), u64w (n := (A : Int)) (by omega) (by omega), u64w (n := (U : Int) + A) (by omega) (by omega), u64w (n := (U : Int) + A + cr) (by omega) (by omega), Int.fdiv_eq_ediv_of_nonneg _ (by omega)]
 have K2 : IntKind.u32.wrap ((U : Int) + A + cr) = (((cr + U + A) % 4294967296 : Nat) : Int) := by rw [u32m]; omega
 have K3 : ((U : Int) + A + cr) / 4294967296 = (((cr + U + A) / 4294967296 : Nat) : Int) := by omega
 refine ⟨_, _, K2, K3, h.div, h.n2, h.nm, h.wn, h.wl, h.ll, h.out, h.eq, h.g32, h.ge, h.gl, hk, by omega, h.wu.set (by omega), by simpa using hlu, ?_, ?_⟩
 · intro i hi; rw [getD_set, if_neg (by omega)]; exact h.out2 i (by omega)
 · have hseg := h.val
   rw [seg_set_last rfl (by omega), seg_succ, seg_succ, Nat.zero_add, hA', hL, Nat.pow_succ]
   have h6 : (cr + U + A) % 4294967296 + (cr + U + A) / 4294967296 * 4294967296 = cr + U + A := by omega
   have h7 := congrArg (· * 4294967296 ^ k) h6
   simp only [Nat.add_mul] at h7 hseg ⊢
   have h9 : ∀ z, z * (4294967296 ^ k * 4294967296) = z * 4294967296 * 4294967296 ^ k := by intro z; grind
   rw [h9]
   omega
theorem BackI.last {X vN n m j g cr : Nat} {u qd u0 l' : List Nat} (h : BackI X vN n m j g n cr u qd u0 l') :
 ∃ low : Nat, IntKind.u32.wrap (((u.getD (j + n) 0 : Nat) : Int) + IntKind.u32.wrap (cr : Int)) = (low : Int) ∧ DivI X vN n m j (u.set (j + n) low) (qd.set j (g - 1)) := by
 have hjn := h.jn
 have hT := h.wu.getD (j + n)
 have hcr := h.cr1
 have hlu := h.lu
 have hL : l'.getD (j + n) 0 = u.getD (j + n) 0 := (h.out2 (j + n) (by omega)).symm
 generalize hT' : u.getD (j + n) 0 = T at *
 have K1 : IntKind.u32.wrap ((T : Int) + IntKind.u32.wrap (cr : Int)) = (((T + cr) % 4294967296 : Nat) : Int) := by rw [u32w (n := (cr : Int)) (by omega) (by omega), u32m]; omega
 refine ⟨_, K1, ?_⟩
 have hwv := h.wn
 have hvpos := wn_pos hwv h.n2
 have hvlt : vN < 4294967296 ^ n := by rw [← hwv]; exact lt_wn vN
 have hlt1 := seg_lt h.wl j (n + 1)
 have heq := h.eq
 have hge := h.ge
 have hgl := h.gl
 have hW3 : ∃ R, seg u0 j (n + 1) = R + (g - 1) * vN ∧ R < vN ∧ seg l' j (n + 1) + vN = R + 4294967296 ^ (n + 1) := by
  obtain ⟨W3, hW3⟩ : ∃ W3, W3 = seg u0 j (n + 1) := ⟨_, rfl⟩
  rw [← hW3] at heq hge hgl ⊢
  have h2 : W3 / vN < g := by
   rw [Nat.div_lt_iff_lt_mul hvpos]; omega
  have h3 : g - 1 = W3 / vN := by
   have := (Nat.le_div_iff_mul_le hvpos).2 hgl
   omega
  have h4 := Nat.div_add_mod' W3 vN
  have h5 : W3 % vN < vN := Nat.mod_lt _ hvpos
  refine ⟨W3 % vN, by rw [h3]; omega, h5, ?_⟩
  have h6 : g * vN = (g - 1) * vN + vN := by
   obtain ⟨q, rfl⟩ : ∃ q, g = q + 1 := ⟨g - 1, by omega⟩
   rw [Nat.succ_mul, Nat.add_sub_cancel]
  rw [h3] at h6
  omega
 obtain ⟨R, hR1, hR2, hR3⟩ := hW3
 have hfin : seg (u.set (j + n) ((T + cr) % 4294967296)) j (n + 1) = R := by
  rw [seg_set_last rfl (by omega)]
  rw [seg_succ, hL] at hR3
  have hseg := h.val
  rw [seg_dig vN (Nat.le_of_eq hwv)] at hseg
  exact add_back (seg_lt h.wu j n) (by omega) hT hcr hR3 hseg
 have hg1 : g - 1 < 4294967296 := by have := h.g32; omega
 refine h.div.next h.nm hR1 hR2 hg1 (h.wu.set (by omega)) (by simpa using hlu) ?_ (seg_top hfin (by omega))
 rw [seg_set_out (by omega)]
 exact seg_ext fun i _ hi => (h.out2 i (by omega)).trans (h.out i (by omega))

set_option maxHeartbeats 4000000 in
theorem ref1_NatDiv_spec {V : View} {s t : Sl} {a b : Nat} (hs : NatAt V s a) (ht : NatAt V t b) (ha : wn a ≤ 2 ^ 43) (hb0 : b ≠ 0) :
 CallV Tryz.prog n_ref1_NatDiv #[s.v, t.v] V fun v V' => ∃ q r : Sl, v = .tuple #[q.v, r.v] ∧ NatAt V' q (a / b) ∧ NatAt V' r (a % b) := by
 have hsl := hs.len
 have htl := ht.len
 obtain ⟨sh, hsh⟩ : ∃ sh, sh = 32 - bl ((dig b).getD (wn b - 1) 0) := ⟨_, rfl⟩
 obtain ⟨hsh1, hwv, hlo⟩ := div_norm hb0 hsh
 obtain ⟨X, hX⟩ : ∃ X, X = a * 2 ^ sh := ⟨_, rfl⟩
 obtain ⟨vN, hvN⟩ : ∃ v, v = b * 2 ^ sh := ⟨_, rfl⟩
 rw [← hvN] at hwv hlo
 obtain ⟨m, hm⟩ : ∃ m, m = s.len + 1 := ⟨_, rfl⟩
 obtain ⟨n, hn⟩ : ∃ n, n = t.len := ⟨_, rfl⟩
 have hna : wn a = s.len := hsl.symm
 have hnb : wn b = n := by rw [hn]; exact htl.symm
 have hal := lt_wn a
 rw [hna] at ha hal
 rw [hnb] at hwv hlo
 have hcmp := ref1_NatCmp_spec hs ht (by omega)
 obtain ⟨v1, hv1⟩ : ∃ v1, v1 = (dig vN).getD (n - 1) 0 := ⟨_, rfl⟩
 obtain ⟨v2, hv2⟩ : ∃ v2, v2 = (dig vN).getD (n - 2) 0 := ⟨_, rfl⟩
 refine ref1_NatDiv_vc s t V _
  (fun c x V' => ∃ (v : Sl) (j : Nat) (u qd : List Nat), c = C_ref1_NatDiv_0.mk (sh : Nat) v (n : Nat) (m - n) (m - n) ∧ NatAt V' v vN ∧ x = L_ref1_NatDiv_0.mk ((j : Int) - 1) (wv u) (wv qd) ∧ DivI X vN n m j u qd)
  (fun _ x _ => (x.t13 + 1).toNat)
  (fun c x _ => ∃ (v : Sl) (j g : Nat) (u qd : List Nat), c = C_ref1_NatDiv_1.mk (sh : Nat) v (n : Nat) (m - n) (m - n) (j : Nat) (wv u) (wv qd) ∧ x = L_ref1_NatDiv_1.mk (g : Nat) ∧ g < 4294967296 ∧ seg u j (n + 1) / vN ≤ g ∧ (g - 1) * vN ≤ seg u j (n + 1))
  (fun c x _ => ∃ (v : Sl) (j g r : Nat) (u qd : List Nat), c = C_ref1_NatDiv_2.mk (sh : Nat) v (n : Nat) (m - n) (m - n) (j : Nat) (wv u) (wv qd) ∧ x = L_ref1_NatDiv_2.mk (g : Nat) (r : Nat) ∧ r < 4294967296 ∧ g * v1 + r = u.getD (j + n) 0 * 4294967296 + u.getD (j + n - 1) 0 ∧
    seg u j (n + 1) / vN ≤ g)
  (fun _ x _ => x.t15.toNat)
  (fun c x _ => ∃ (v : Sl) (j g i cr bo : Nat) (u qd u0 : List Nat), c = C_ref1_NatDiv_3.mk (sh : Nat) v (n : Nat) (m - n) (m - n) (j : Nat) (g : Nat) ∧ x = L_ref1_NatDiv_3.mk (bo : Nat) (cr : Nat) (i : Nat) (wv u) (wv qd) ∧ TakeI X vN n m j g i cr bo u qd u0)
  (fun _ x _ => (n - x.t19).toNat)
  (fun c x _ => ∃ (v : Sl) (j g k cr : Nat) (u qd u0 l' : List Nat), c = C_ref1_NatDiv_4.mk (sh : Nat) v (n : Nat) (m - n) (m - n) (j : Nat) ((g - 1 : Nat) : Int) ∧ x = L_ref1_NatDiv_4.mk (cr : Nat) (k : Nat) (wv u) (wv qd) ∧ 0 < g ∧ BackI X vN n m j g k cr u qd u0 l')
  (fun _ x _ => (n - x.t23).toNat)
  (hcmp.mono fun v V1 l1 hv => ⟨_, hv, fun hlt => ?_, fun hge => ⟨fun h1 => ?_, fun h2 => ?_⟩⟩)
 · -- a below b
   have hlt : a < b := by
    rcases Nat.lt_or_ge a b with h | h
    · exact h
    · exfalso; revert hlt; rw [if_neg (by omega)]; split <;> simp
   exact ⟨_, _, rfl, by rw [Nat.div_eq_of_lt hlt]; exact NatAt.zero V1, by rw [Nat.mod_eq_of_lt hlt]; exact hs.le l1⟩
 · -- one word
   have h1 : n = 1 := by have : (t.len : Int) = 1 := (by simpa using h1); omega
   have hb1 : b < 4294967296 := by have := lt_wn b; rw [hnb, h1] at this; simpa using this
   have hd : (dig b).getD 0 0 = b := by rw [dig_getD]; simp; omega
   have hg := (ht.le l1).get (i := 0) (by omega) (by omega)
   simp only [Int.toNat_zero, hd] at hg
   refine ⟨⟨by omega, by omega, ht.isSome (by omega)⟩, _, hg, ?_⟩
   refine (ref1_natDigit_spec (hs.le l1) (by omega) (by omega) hb1).mono fun v V2 l2 ⟨q, hv, hq⟩ => ⟨q, _, hv, ?_⟩
   have hmod : a % b < b := Nat.mod_lt _ (by omega)
   rw [u64w (by omega) (by omega)]
   refine (ref1_NatOf_spec (by omega) (by omega)).mono fun v V3 l3 ⟨r, hv, hr⟩ => ⟨r, hv, q, r, rfl, hq.le l3, ?_⟩
   rw [Int.toNat_natCast] at hr; exact hr
 -- many words
 have hab : b ≤ a := by
  rcases Nat.lt_or_ge a b with h | h
  · exfalso; revert hge; rw [if_pos h]; simp
  · exact h
 have hnm : n ≤ s.len := by rw [← hna, ← hnb]; exact wn_mono hab
 have hn0 : n ≠ 0 := by rw [← hnb]; intro e; exact hb0 (wn_eq_zero.1 e)
 have hn2 : 2 ≤ n := by have : ¬ (t.len : Int) = 1 := (by simpa using h2); omega
 have E2 : IntKind.i64.wrap ((s.len : Int) + 1) = (m : Nat) := by rw [i64w (by omega) (by omega)]; omega
 have E3 : IntKind.i64.wrap ((m : Int) - (n : Int)) = ((m - n : Nat) : Int) := by rw [i64w (by omega) (by omega)]; omega
 have E1 : IntKind.i64.wrap ((n : Int) - 1) = ((n - 1 : Nat) : Int) := by rw [i64w (by omega) (by omega)]; omega
 have E4 : IntKind.i64.wrap ((n : Int) - 2) = ((n - 2 : Nat) : Int) := by rw [i64w (by omega) (by omega)]; omega
 have E5 : IntKind.i64.wrap (((m - n : Nat) : Int) - 1) = ((m - n : Nat) : Int) - 1 := by rw [i64w (by omega) (by omega)]
 have E6 : (t.len : Int) = (n : Nat) := by omega
 have hblb := bl_wn hb0
 have hbltop : bl ((dig b).getD (wn b - 1) 0) ≤ 32 := by
  have h3 := (top_bounds hb0).2.2
  have := bl_le h3
  have := (WB_dig b).getD (wn b - 1)
  have := (Nat.pow_lt_pow_iff_right (a := 2) (n := bl ((dig b).getD (wn b - 1) 0) - 1) (m := 32) (by omega)).1 (by omega)
  omega
 have Esh : IntKind.i64.wrap (IntKind.i64.wrap (32 * (t.len : Int)) - (bl b : Nat)) = (sh : Nat) := by
  rw [i64w (n := 32 * (t.len : Int)) (by omega) (by omega), i64w (by omega) (by omega)]; omega
 refine (ref1_NatBits_spec (ht.le l1) (by omega)).mono fun v V4 l4 hv => ⟨_, hv, ?_⟩
 simp only [Esh]
 refine (ref1_NatShl_spec (ht.le (View.le_trans l1 l4)) (by omega) (by omega)).mono fun v V5 l5 ⟨w, hv, hw⟩ => ⟨w, hv, ?_⟩
 rw [← hvN] at hw
 have hwl : w.len = n := by have := hw.len; simp only [wn] at hwv; omega
 simp only [E2, Int.toNat_natCast, hwl, E3, E1, E4, E5]
 refine ⟨⟨by omega, by omega, by omega, by omega⟩, (ref1_NatShl_spec (hs.le (View.le_trans l1 (View.le_trans l4 l5))) (by omega) (by omega)).mono fun v V6 l6 ⟨ua, hv, hua⟩ => ⟨ua, hv, ?_⟩⟩
 rw [← hX] at hua
 have hXm : wn X ≤ m := by
  refine wn_le_of_lt ?_
  rw [hX, hm, Nat.pow_succ]
  exact Nat.mul_lt_mul'' hal (Nat.lt_of_le_of_lt (Nat.pow_le_pow_right (by omega) hsh1) (by omega))
 have hual := hua.len
 simp only [wn] at hXm
 refine ⟨wv (dig X), Words.has hua, by rw [wv_length]; omega, ?_, ?_, ?_, ⟨by omega, by omega, by omega, by omega⟩, ?_⟩
 · by_cases h0 : ua.len = 0
   · left; have : (dig X).length = 0 := by omega
     rw [List.eq_nil_of_length_eq_zero this]; rfl
   · right; exact hua.isSome (by omega)
 · intro v hv; simp only [wv, List.mem_map] at hv; obtain ⟨d, _, rfl⟩ := hv; rfl
 · rw [wv_zeros, wv_length, wv_length]; simp; omega
 rw [wv_zeros, wv_zeros, setL_wv m (dig X) (by omega)]
 have hq0 : seg (dig X ++ List.replicate (m - (dig X).length) 0) 0 m = X := by
  rw [seg_all (by simp; omega), wval_pad, wval_dig]
 have h7 := div_first hal hm hX hsh1 (by omega) (by omega) hlo _ hq0
 refine ⟨⟨w, m - n, _, _, rfl, hw.le l6, rfl, by omega, ?_, by simp; omega, WB.zeros _, by simp, ?_, h7⟩, ?_⟩
 · intro d hd
   rcases List.mem_append.1 hd with hd | hd
   · exact WB_dig X d hd
   · rw [(List.mem_replicate.1 hd).2]; omega
 · rw [show m - n + n = m by omega, hq0, Nat.sub_self, seg_zero]; simp
 rintro _ V7 hle7 ⟨w', j, u, qd, hc, hw7, rfl, hD⟩
 obtain rfl : w' = w := by simp only [C_ref1_NatDiv_0.mk.injEq] at hc; exact hc.2.1.symm
 have hjl := hD.jl
 have hlu := hD.lu
 have hlq := hD.lq
 have hwu := hD.wu
 simp only [sh32_64]
 refine ⟨fun hp => ?_, fun hp b1 V12 l12 hb1 b2 V13 l13 hb2 => ?_⟩
 · simp only [ge_iff_le, decide_eq_true_eq] at hp
   obtain ⟨i, rfl⟩ : ∃ i, j = i + 1 := ⟨j - 1, by omega⟩
   have e0 : (((i + 1 : Nat) : Int) - 1) = (i : Nat) := by omega
   simp only [e0]
   have F1 : IntKind.i64.wrap ((i : Int) + (n : Int)) = ((i + n : Nat) : Int) := by rw [i64w (by omega) (by omega)]; omega
   have F2 : IntKind.i64.wrap (((i + n : Nat) : Int) - 1) = ((i + n - 1 : Nat) : Int) := by rw [i64w (by omega) (by omega)]; omega
   have F3 : IntKind.i64.wrap (((i + n : Nat) : Int) - 2) = ((i + n - 2 : Nat) : Int) := by rw [i64w (by omega) (by omega)]; omega
   have F4 : IntKind.i64.wrap ((i : Int) - 1) = (i : Int) - 1 := by rw [i64w (by omega) (by omega)]
   simp only [F1, F2, F3, F4, Int.toNat_natCast, Nat.zero_add, Nat.mul_one]
   have G := guess_of hwu hn2 hwv hD.lt
   rw [← hv1, ← hv2] at G
   obtain ⟨W, hW⟩ : ∃ W, W = seg u i (n + 1) := ⟨_, rfl⟩
   obtain ⟨u2, hu2⟩ : ∃ x, x = u.getD (i + n) 0 := ⟨_, rfl⟩
   obtain ⟨u1, hu1⟩ : ∃ x, x = u.getD (i + n - 1) 0 := ⟨_, rfl⟩
   obtain ⟨u0, hu0⟩ : ∃ x, x = u.getD (i + n - 2) 0 := ⟨_, rfl⟩
   rw [← hW, ← hu2, ← hu1, ← hu0] at G
   have hu2l : u2 < 4294967296 := by rw [hu2]; exact hwu.getD _
   have hv1l := G.h1
   have hv1p := G.pos
   have hu1l := G.k1
   have hv1b : 2147483648 ≤ v1 := by
    have hvn0 : vN ≠ 0 := by rintro rfl; rw [wn_zero] at hwv; omega
    have h3 := (top_bounds hvn0).2.1
    rw [hwv, ← hv1] at h3
    have h4 : 2147483648 * 4294967296 ^ (n - 1) < (v1 + 1) * 4294967296 ^ (n - 1) := by omega
    have := Nat.lt_of_mul_lt_mul_right h4
    omega
   have gv1 := (hw7).get (i := ((n - 1 : Nat) : Int)) (by omega) (by omega)
   rw [Int.toNat_natCast, ← hv1, Nat.mul_one] at gv1
   have gv2 := (hw7).get (i := ((n - 2 : Nat) : Int)) (by omega) (by omega)
   rw [Int.toNat_natCast, ← hv2, Nat.mul_one] at gv2
   have hws := hw7.isSome (by omega)
   have hor : BitVec.toNat ((BitVec.ofInt IntKind.u64.bits (IntKind.u64.wrap ((IntKind.u64.wrap (u2 : Int)) * 4294967296))) ||| (BitVec.ofInt IntKind.u64.bits (IntKind.u64.wrap (u1 : Int)))) = u2 * 4294967296 + u1 := by
    rw [u64w (n := (u2 : Int)) (by omega) (by omega), u64w (n := (u1 : Int)) (by omega) (by omega), u64w (by omega) (by omega), show (u2 : Int) * 4294967296 = ((u2 * 4294967296 : Nat) : Int) by omega]
    exact or64 hu1l hu2l
   refine ⟨⟨by omega, by omega⟩, _, wv_get (by omega), ⟨by omega, by omega⟩, _, wv_get (by omega), ⟨by omega, by omega, hws⟩, _, gv1, ?_, ⟨by omega, by omega, hws⟩, _, gv1, ?_, ⟨?_, ?_⟩, ?_⟩
   · rw [u64w (by omega) (by omega)]; omega
   · rw [u64w (by omega) (by omega)]; omega
   · -- the first guess
     rw [← hu2, ← hu1, hor, u64w (n := (v1 : Int)) (by omega) (by omega), u64w (n := ((u2 * 4294967296 + u1 : Nat) : Int)) (by omega) (by omega), ← Int.ofNat_tdiv, ← Int.ofNat_tmod]
     have h3 : (u2 * 4294967296 + u1) / v1 ≤ u2 * 4294967296 + u1 := Nat.div_le_self _ _
     have h4 : (u2 * 4294967296 + u1) % v1 < v1 := Nat.mod_lt _ hv1p
     have h5 := Nat.div_add_mod' (u2 * 4294967296 + u1) v1
     have h6 := G.init
     generalize (u2 * 4294967296 + u1) / v1 = g at *
     generalize (u2 * 4294967296 + u1) % v1 = r at *
     rw [u64w (n := (g : Int)) (by omega) (by omega)]
     refine ⟨w', i, g, r, u, qd, rfl, rfl, by omega, ?_, ?_⟩
     · rw [← hu2, ← hu1]; exact h5
     · rw [← hW]; exact h6
   · -- the guess is put down
     rintro _ V9 l9 ⟨w2, i2, g, r, u', qd', hc2, rfl, hr, hgr, hge⟩
     simp only [C_ref1_NatDiv_2.mk.injEq] at hc2
     obtain ⟨_, rfl, _, _, _, hi2, hu', hq'⟩ := hc2
     obtain rfl : i2 = i := by omega
     obtain rfl := wv_inj hu'
     obtain rfl := wv_inj hq'
     rw [← hu2, ← hu1] at hgr
     rw [← hW] at hge
     have hgl : g < 8589934592 := by
      rcases Nat.lt_or_ge g 8589934592 with h | h
      · exact h
      · exfalso
        have := Nat.mul_le_mul h hv1b
        omega
     have gv1' := View.load_le l9 gv1
     have gv2' := View.load_le l9 gv2
     simp only
     -- a step down
     have down : 0 < g → W / vN ≤ g - 1 → (4294967296 ≤ r + v1 → (g - 1 - 1) * vN ≤ W ∧ g - 1 < 4294967296) →
      ((decide (((IntKind.u64.wrap ((r : Int) + (IntKind.u64.wrap (v1 : Int)))) : Int) ≥ 4294967296)) = true →
        ∃ (v : Sl) (j g' : Nat) (u1 qd1 : List Nat), C_ref1_NatDiv_1.mk (sh : Nat) w' (n : Nat) (m - n) (m - n) (i2 : Nat) (wv u) (wv qd) = C_ref1_NatDiv_1.mk (sh : Nat) v (n : Nat) (m - n) (m - n) (j : Nat) (wv u1) (wv qd1) ∧ L_ref1_NatDiv_1.mk (IntKind.u64.wrap ((g : Int) - 1)) = L_ref1_NatDiv_1.mk (g' : Nat) ∧ g' < 4294967296 ∧ seg u1 j (n + 1) / vN ≤ g' ∧ (g' - 1) * vN ≤ seg u1 j (n + 1)) ∧
      ((decide (((IntKind.u64.wrap ((r : Int) + (IntKind.u64.wrap (v1 : Int)))) : Int) ≥ 4294967296)) = false →
        (∃ (v : Sl) (j g' r' : Nat) (u1 qd1 : List Nat), C_ref1_NatDiv_2.mk (sh : Nat) w' (n : Nat) (m - n) (m - n) (i2 : Nat) (wv u) (wv qd) = C_ref1_NatDiv_2.mk (sh : Nat) v (n : Nat) (m - n) (m - n) (j : Nat) (wv u1) (wv qd1) ∧
          L_ref1_NatDiv_2.mk (IntKind.u64.wrap ((g : Int) - 1)) (IntKind.u64.wrap ((r : Int) + (IntKind.u64.wrap (v1 : Int)))) = L_ref1_NatDiv_2.mk (g' : Nat) (r' : Nat) ∧ r' < 4294967296 ∧ g' * v1 + r' = u1.getD (j + n) 0 * 4294967296 + u1.getD (j + n - 1) 0 ∧ seg u1 j (n + 1) / vN ≤ g') ∧
        (IntKind.u64.wrap ((g : Int) - 1)).toNat < (g : Int).toNat) := by
      intro h0 h1 h2
      rw [u64w (n := (v1 : Int)) (by omega) (by omega), u64w (n := (r : Int) + v1) (by omega) (by omega), u64w (n := (g : Int) - 1) (by omega) (by omega)]
      have e1 : (g : Int) - 1 = ((g - 1 : Nat) : Int) := by omega
      have e2 : (r : Int) + v1 = ((r + v1 : Nat) : Int) := by omega
      rw [e1, e2]
      refine ⟨fun h => ?_, fun h => ?_⟩
      · simp only [ge_iff_le, decide_eq_true_eq] at h
        obtain ⟨h3, h4⟩ := h2 (by omega)
        exact ⟨w', i2, g - 1, u, qd, rfl, rfl, h4, by rw [← hW]; exact h1, by rw [← hW]; exact h3⟩
      · simp only [ge_iff_le, decide_eq_false_iff_not] at h
        refine ⟨⟨w', i2, g - 1, r + v1, u, qd, rfl, rfl, by omega, ?_, by rw [← hW]; exact h1⟩, by omega⟩
        rw [← hu2, ← hu1, ← hgr]
        obtain ⟨k, rfl⟩ : ∃ k, g = k + 1 := ⟨g - 1, by omega⟩
        rw [Nat.succ_mul, Nat.add_sub_cancel]; omega
     refine ⟨fun hp2 => ⟨fun _ => ?_, fun h => by cases h⟩, fun hp2 => ?_⟩
     · simp only [ge_iff_le, decide_eq_true_eq] at hp2
       have hq := G.quo
       refine ⟨⟨by omega, by omega, hws⟩, _, gv1', ?_⟩
       exact down (by omega) (by omega) (fun h => (G.brk hgr (by omega) h).symm)
     · simp only [ge_iff_le, decide_eq_false_iff_not] at hp2
       have hg32 : g < 4294967296 := by omega
       have hv2l := G.h2
       have hm1 := mul_word hg32 hv2l
       have hu0l := G.k0
       refine ⟨⟨by omega, by omega, hws⟩, _, gv2', ⟨by omega, by omega⟩, _, wv_get (by omega), ?_⟩
       rw [← hu0]
       have hor2 : BitVec.toNat ((BitVec.ofInt IntKind.u64.bits (IntKind.u64.wrap ((r : Int) * 4294967296))) ||| (BitVec.ofInt IntKind.u64.bits (IntKind.u64.wrap (u0 : Int)))) = r * 4294967296 + u0 := by
        rw [u64w (n := (u0 : Int)) (by omega) (by omega), u64w (by omega) (by omega), show (r : Int) * 4294967296 = ((r * 4294967296 : Nat) : Int) by omega]
        exact or64 hu0l hr
       rw [hor2, u64w (n := (v2 : Int)) (by omega) (by omega), ← Int.natCast_mul, u64w (n := ((g * v2 : Nat) : Int)) (by omega) (by omega), u64w (n := ((r * 4294967296 + u0 : Nat) : Int)) (by omega) (by omega)]
       refine ⟨fun hp3 => ?_, fun hp3 => ?_⟩
       · simp only [gt_iff_lt, decide_eq_true_eq] at hp3
         have hd := G.dec hgr (by omega)
         refine ⟨⟨by omega, by omega, hws⟩, _, gv1', ?_⟩
         have hg0 : 0 < g := Nat.lt_of_le_of_lt (Nat.zero_le _) hd
         exact down hg0 (Nat.le_sub_one_of_lt hd) (fun h => (G.brk hgr hg0 h).symm)
       · simp only [gt_iff_lt, decide_eq_false_iff_not] at hp3
         exact ⟨w', i2, g, u, qd, rfl, rfl, hg32, by rw [← hW]; exact hge, by rw [← hW]; exact G.exit hgr hg32 (by omega)⟩
   · -- the guess is taken
     rintro _ V8 l8 ⟨w2, i2, g, u', qd', hc2, rfl, hg32, hge, hgl⟩
     simp only [C_ref1_NatDiv_1.mk.injEq] at hc2
     obtain ⟨_, rfl, _, _, _, hi2, hu', hq'⟩ := hc2
     obtain rfl : i2 = i := by omega
     obtain rfl := wv_inj hu'
     obtain rfl := wv_inj hq'
     refine ⟨⟨w', i2, g, 0, 0, 0, u, qd, u, rfl, rfl, hD, hn2, by omega, hwv, hg32, hge, hgl, by omega, hwu, hlu, by omega, by omega, fun _ _ => rfl, by simp [seg_zero, wval]⟩, ?_⟩
     clear G hge hgl gv1 gv2 hor hq0 h7 hXm hual hua hcmp hlo hX hvN hsh hblb hbltop Esh hv1 hv2 hu2 hu1 hu0 hW
     rintro _ V10 l10 ⟨w2, i9, g9, k, c0, b0, u9, qd9, u00, hc9, rfl, hT⟩
     simp only [C_ref1_NatDiv_3.mk.injEq] at hc9
     obtain ⟨_, rfl, _, _, _, hi9, hgg⟩ := hc9
     obtain rfl : i2 = i9 := by omega
     obtain rfl : g = g9 := by omega
     have hjn := hT.jn
     have hkn := hT.i_le
     have hlu9 := hT.lu
     have hlq9 := hT.div.lq
     have hme : ((i2 : Int) - 1 + 1).toNat < (((i2 + 1 : Nat) : Int)).toNat := by omega
     simp only [sh63_64, Int.toNat_natCast]
     refine ⟨fun hp2 => ?_, fun hp2 => ?_⟩
     · simp only [decide_eq_true_eq] at hp2
       have hkn : k < n := by omega
       have K1 : IntKind.i64.wrap ((k : Int) + i2) = ((i2 + k : Nat) : Int) := by rw [i64w (by omega) (by omega)]; omega
       simp only [K1, Int.toNat_natCast]
       have gk := (hw7.le (View.le_trans l8 l10)).get (i := (k : Nat)) (by omega) (by omega)
       simp only [Int.toNat_natCast, Nat.mul_one] at gk
       refine ⟨⟨by omega, by omega, hws⟩, _, gk, ⟨by omega, by omega⟩, _, wv_get (by omega), ⟨by omega, by omega⟩, by rw [wv_length]; omega, ?_⟩
       obtain ⟨low, br, c, e1, e2, e3, hT'⟩ := hT.step hkn
       rw [e1, e2, e3, wv_set, i64w (n := (k : Int) + 1) (by omega) (by omega)]
       exact ⟨⟨w', i2, g, k + 1, c, br, _, qd9, u00, rfl, rfl, hT'⟩, by omega⟩
     simp only [decide_eq_false_iff_not] at hp2
     obtain rfl : n = k := by omega
     refine ⟨⟨by omega, by omega⟩, _, wv_get (by omega), ⟨by omega, by omega⟩, by rw [wv_length]; omega, ?_⟩
     obtain ⟨low, br, e1, e2, hl', hb1, hb0⟩ := hT.last
     rw [e1, e2, wv_set]
     refine ⟨fun hn1 => ?_, fun hn1 => ?_⟩
     · -- one too many: it is added back
       obtain ⟨hB, hg0⟩ := hb1 (by have : (br : Int) = 1 := (by simpa using hn1); omega)
       rw [u64w (n := (g : Int) - 1) (by omega) (by omega), show (g : Int) - 1 = ((g - 1 : Nat) : Int) by omega]
       refine ⟨⟨w', i2, g, 0, 0, _, qd9, u00, _, rfl, rfl, hg0, hB⟩, ?_⟩
       clear hT hB hb1 hb0 hl' e1 e2
       rintro _ V11 l11 ⟨w3, i3, g3, k3, cr, u3, qd3, u03, l3, hc3, rfl, hg3, hB⟩
       simp only [C_ref1_NatDiv_4.mk.injEq] at hc3
       obtain ⟨_, rfl, _, _, _, hi3, hg3'⟩ := hc3
       obtain rfl : i2 = i3 := by omega
       obtain rfl : g = g3 := by omega
       have hjn := hB.jn
       have hkn := hB.k_le
       have hlu3 := hB.lu
       have hlq3 := hB.div.lq
       simp only [Int.toNat_natCast]
       refine ⟨fun hp4 => ?_, fun hp4 => ?_⟩
       · simp only [decide_eq_true_eq] at hp4
         have hkn : k3 < n := by omega
         have K1 : IntKind.i64.wrap ((k3 : Int) + i2) = ((i2 + k3 : Nat) : Int) := by rw [i64w (by omega) (by omega)]; omega
         simp only [K1, Int.toNat_natCast]
         have gk := (hw7.le (View.le_trans l8 (View.le_trans l10 l11))).get (i := (k3 : Nat)) (by omega) (by omega)
         simp only [Int.toNat_natCast, Nat.mul_one] at gk
         refine ⟨⟨by omega, by omega⟩, _, wv_get (by omega), ⟨by omega, by omega, hws⟩, _, gk, ⟨by omega, by omega⟩, by rw [wv_length]; omega, ?_⟩
         obtain ⟨low, c, e1, e2, hB'⟩ := hB.step hkn
         rw [e1, e2, wv_set, i64w (n := (k3 : Int) + 1) (by omega) (by omega)]
         exact ⟨⟨w', i2, g, k3 + 1, c, _, qd3, u03, l3, rfl, rfl, hg3, hB'⟩, by omega⟩
       · simp only [decide_eq_false_iff_not] at hp4
         obtain rfl : n = k3 := by omega
         refine ⟨⟨by omega, by omega⟩, _, wv_get (by omega), ⟨by omega, by omega⟩, by rw [wv_length]; omega, ⟨by omega, by omega⟩, by rw [wv_length]; omega, ?_⟩
         obtain ⟨low, e1, hD'⟩ := hB.last
         rw [u32w (n := ((g - 1 : Nat) : Int)) (by omega) (by omega), e1, wv_set, wv_set]
         exact ⟨⟨w', i2, _, _, rfl, hw7.le (View.le_trans l8 (View.le_trans l10 l11)), rfl, hD'⟩, hme⟩
     · -- the guess is right
       have hD' := hb0 (fun h => by rw [h] at hn1; simp at hn1)
       rw [u32w (n := (g : Int)) (by omega) (by omega), wv_set]
       exact ⟨⟨by omega, by omega⟩, by rw [wv_length]; omega, ⟨w', i2, _, _, rfl, hw7.le (View.le_trans l8 l10), rfl, hD'⟩, hme⟩
 · -- the end
   simp only [ge_iff_le, decide_eq_false_iff_not] at hp
   obtain rfl : j = 0 := by omega
   have heq := hD.eq
   have hlt0 := hD.lt
   rw [Nat.zero_add, Nat.pow_zero, Nat.one_mul, Nat.sub_zero] at heq
   obtain ⟨hq1, hr1⟩ := div_last hX hvN hb0 heq hlt0
   have hwq : Words V12 (Sl.mk (some (Addr.mk b1 0 none)) (m - n) (m - n)) qd := Words.of_block hb1 (by omega) (Nat.le_refl _) hD.wq
   have hwr : Words V13 (Sl.mk (some (Addr.mk b2 0 none)) m m) u := Words.of_block hb2 (by omega) (Nat.le_refl _) hwu
   refine ⟨⟨by omega, by omega, by omega⟩, (ref1_trim_spec (Words.le l13 hwq) (by omega)).mono fun v V14 l14 ⟨q, hv, hq⟩ => ⟨q, hv, ?_⟩⟩
   have hwr2 : Words V14 (Sl.mk (some (Addr.mk b2 0 none)) n m) (u.take n) := Words.le l14 (Words.pre hwr (k := n) (c := m) (by omega) (by omega))
   have hl50 : (u.take n).length ≤ 2 ^ 50 := by rw [List.length_take]; omega
   have hz : Int.toNat 0 = 0 := rfl
   have hm0 : ¬ m = 0 := by omega
   have hadd : Option.map (fun q => Addr.add q 0) (some (Addr.mk b2 0 none)) = some (Addr.mk b2 0 none) := by simp [Addr.add]
   simp only [hz, hm0, if_false, Nat.zero_mul, hadd, Nat.sub_zero]
   have htr := ref1_trim_spec hwr2 hl50
   refine htr.mono fun v V15 l15 ⟨r, hv, hr⟩ => ⟨r, hv, ?_⟩
   rw [← seg_take] at hr
   have hrw : wn (seg u 0 n) ≤ 2 ^ 44 := by
    have := wn_le_of_lt (seg_lt hwu 0 n)
    omega
   refine (ref1_NatShr_spec hr hrw (by omega)).mono fun v V16 l16 ⟨r2, hv, hr2⟩ => ⟨r2, hv, q, r2, rfl, ?_, ?_⟩
   · rw [← hq1, seg_all (by omega)]; exact hq.le (View.le_trans l15 l16)
   · rw [← hr1]; exact hr2
end Go.Proofs.YtefkpimcffofaaaGreat
