/- Part. -/
import Derived.Test.YtefkpimcffofaaaGreatPartD
import Derived.Deep.Slices
import Derived.Laws.StructEq
namespace Go.Proofs.YtefkpimcffofaaaGreat
open Go Go.Vc Go.Proofs
open Go.Proofs.Tryz (prog)
open Go.IntKind (i64 u64 u32 u8)
theorem L0d {V : View} {s t : Sl} {a b : Nat} (hs : F01 V s a) (ht : F01 V t b) (ha : wn a ≤ 2 ^ 43) (hb : wn b ≤ 2 ^ 43) :
 a00 prog N0q #[s.v, t.v] V fun v V' => ∃ r : Sl, v = r.v ∧ F01 V' r (Nat.gcd a b) := by
 refine j0p s t V _ (fun _ x V' => ∃ a' b', F01 V' x.t0 a' ∧ F01 V' x.t1 b' ∧ wn a' ≤ 2 ^ 43 ∧ wn b' ≤ 2 ^ 43 ∧ Nat.gcd a' b' = Nat.gcd a b) (fun _ x V' => g0r V' x.t1) ⟨⟨a, b, hs, ht, ha, hb, rfl⟩, ?_⟩
 rintro ⟨x, y⟩ V1 l1 ⟨a', b', hx, hy, wa, wb, hg⟩
 simp only at hx hy ⊢
 have hyl := hy.len
 refine ⟨fun hp => ?_, fun hp => ?_⟩
 · simp only [gt_iff_lt, decide_eq_true_eq] at hp
   have hb0 : b' ≠ 0 := fun e => by rw [← hy.len_zero] at e; omega
   refine (O06 hx hy wa hb0).mono fun v V2 l2 ⟨q, r, hv, hq, hr⟩ => ⟨q, r, hv, ?_⟩
   have hlt : a' % b' < b' := Nat.mod_lt _ (by omega)
   have hwr : wn (a' % b') ≤ wn b' := B0b (Nat.le_of_lt hlt)
   refine ⟨⟨b', a' % b', hy.le l2, hr, wb, by omega, ?_⟩, ?_⟩
   · rw [Nat.gcd_comm, ← Nat.gcd_rec, Nat.gcd_comm]; exact hg
   · rw [y0k hr, y0k hy]; exact hlt
 · simp only [gt_iff_lt, decide_eq_false_iff_not] at hp
   have hb0 : b' = 0 := hy.len_zero.1 (by omega)
   subst hb0
   rw [Nat.gcd_zero_right] at hg
   exact ⟨x, rfl, by rw [← hg]; exact hx⟩
theorem W02 {V : View} {s : Sl} {n : Nat} (neg : Bool) (h : F01 V s n) :
 a00 prog Z08 #[.bool neg, s.v] V fun v V' => ∃ r : WhV, v = r.val ∧ N04 V' r (if neg = true then -(n : Int) else n) := by
 have hl := h.len_zero
 refine j0g neg s V _ ⟨fun hn => ⟨_, rfl, ?_, ?_⟩, fun hn => ⟨_, rfl, ?_, ?_⟩⟩
 · rw [if_pos hn]; simp only [gt_iff_lt, decide_eq_decide]; omega
 · rw [if_pos hn]; simpa using h
 · rw [if_neg (by simp [hn])]; symm; simp only [decide_eq_false_iff_not]; omega
 · rw [if_neg (by simp [hn])]; simpa using h
theorem j07 {V : View} {n : Int} (h0 : -9223372036854775808 ≤ n) (h1 : n ≤ 9223372036854775807) :
 a00 prog P0o #[.int .i64 n] V fun v V' => ∃ r : WhV, v = r.val ∧ N04 V' r n := by
 refine j0m n V _ ⟨fun hn => ?_, fun hn => ?_⟩
 · simp only [decide_eq_true_eq] at hn
   have e : u64.wrap (0 - u64.wrap n) = -n := by rw [u64m, u64m]; omega
   rw [e]
   refine (G05 (by omega) (by omega)).mono fun v V1 _ ⟨r, hv, hr⟩ => ⟨r, hv, _, rfl, by simp [hn], ?_⟩
   have e2 : n.natAbs = (-n).toNat := by omega
   rw [e2]; exact hr
 · simp only [decide_eq_false_iff_not] at hn
   rw [u64w (by omega) (by omega)]
   refine (G05 (by omega) (by omega)).mono fun v V1 _ ⟨r, hv, hr⟩ => ⟨r, hv, _, rfl, by simp [hn], ?_⟩
   have e2 : n.natAbs = n.toNat := by omega
   rw [e2]; exact hr
theorem L03 {V : View} {x : WhV} {a : Int} (h : N04 V x a) :
 a00 prog d0i #[x.val] V fun v V' => ∃ r : WhV, v = r.val ∧ N04 V' r (-a) := by
 refine k0g x V _ ((W02 (!x.neg) h.2).mono fun v V1 _ ⟨r, hv, hr⟩ => ⟨r, hv, r, rfl, ?_⟩)
 have e : (if (!x.neg) = true then -(a.natAbs : Int) else (a.natAbs : Int)) = -a := by
  rw [h.1]; simp only [Bool.not_eq_true', decide_eq_false_iff_not]; split <;> omega
 rw [e] at hr; exact hr
theorem E04 {V : View} {x y : WhV} {a b : Int} (hx : N04 V x a) (hy : N04 V y b) (ha : wn a.natAbs ≤ 2 ^ 43) (hb : wn b.natAbs ≤ 2 ^ 43) :
 a00 prog N0j #[x.val, y.val] V fun v V' => ∃ r : WhV, v = r.val ∧ N04 V' r (a + b) := by
 have h1 := hx.1
 have h2 := hy.1
 refine n0i x y V _ ⟨fun hs => ?_, fun hs => ?_⟩
 · refine (Z0k hx.2 hy.2 (by omega) (by omega)).mono fun v V1 l1 ⟨r, hv, hr⟩ => ⟨r, hv, ?_⟩
   refine (W02 x.neg hr).mono fun v V2 _ ⟨w, hv, hw⟩ => ⟨w, hv, w, rfl, ?_⟩
   have e : (if x.neg = true then -((a.natAbs + b.natAbs : Nat) : Int) else ((a.natAbs + b.natAbs : Nat) : Int)) = a + b := by
    rw [h1, h2] at hs; rw [h1]
    by_cases p : a < 0 <;> by_cases q : b < 0 <;> simp [p, q] at hs ⊢ <;> omega
   rw [e] at hw; exact hw
 · refine (M06 hx.2 hy.2 (by omega)).mono fun v V1 l1 hv => ⟨_, hv, fun hc => ?_, fun hc => ?_⟩
   · have hc : b.natAbs ≤ a.natAbs := by
       rcases Nat.lt_or_ge a.natAbs b.natAbs with h | h
       · rw [if_pos h] at hc; simp at hc
       · exact h
     refine (K0d (hx.2.le l1) (hy.2.le l1) (by omega) hc).mono fun v V2 l2 ⟨r, hv, hr⟩ => ⟨r, hv, ?_⟩
     refine (W02 x.neg hr).mono fun v V3 _ ⟨w, hv, hw⟩ => ⟨w, hv, w, rfl, ?_⟩
     have e : (if x.neg = true then -((a.natAbs - b.natAbs : Nat) : Int) else ((a.natAbs - b.natAbs : Nat) : Int)) = a + b := by
      rw [h1, h2] at hs; rw [h1]
      by_cases p : a < 0 <;> by_cases q : b < 0 <;> simp [p, q] at hs ⊢ <;> omega
     rw [e] at hw; exact hw
   · have hc : a.natAbs ≤ b.natAbs := by
       rcases Nat.lt_or_ge b.natAbs a.natAbs with h | h
       · rw [if_neg (by omega), if_neg (by omega)] at hc; simp at hc
       · exact h
     refine (K0d (hy.2.le l1) (hx.2.le l1) (by omega) hc).mono fun v V2 l2 ⟨r, hv, hr⟩ => ⟨r, hv, ?_⟩
     refine (W02 y.neg hr).mono fun v V3 _ ⟨w, hv, hw⟩ => ⟨w, hv, w, rfl, ?_⟩
     have e : (if y.neg = true then -((b.natAbs - a.natAbs : Nat) : Int) else ((b.natAbs - a.natAbs : Nat) : Int)) = a + b := by
      rw [h1, h2] at hs; rw [h2]
      by_cases p : a < 0 <;> by_cases q : b < 0 <;> simp [p, q] at hs ⊢ <;> omega
     rw [e] at hw; exact hw
theorem S0t (x y a b : Int) (hx : x = if a < 0 then -1 else 1) (hy : y = if b < 0 then -1 else 1) : a * b = x * y * (a.natAbs * b.natAbs : Nat) := by
 have ha : a = x * a.natAbs := by rw [hx]; split <;> omega
 have hb : b = y * b.natAbs := by rw [hy]; split <;> omega
 rw [Int.natCast_mul]
 conv => lhs; rw [ha, hb]
 grind
theorem l04 {V : View} {x y : WhV} {a b : Int} (hx : N04 V x a) (hy : N04 V y b) (ha : wn a.natAbs ≤ 2 ^ 43) (hb : wn b.natAbs ≤ 2 ^ 43) :
 a00 prog e0i #[x.val, y.val] V fun v V' => ∃ r : WhV, v = r.val ∧ N04 V' r (a * b) := by
 refine l0g x y V _ ((N06 hx.2 hy.2 (by omega) (by omega)).mono fun v V1 l1 ⟨r, hv, hr⟩ => ⟨r, hv, ?_⟩)
 refine (W02 (!(x.neg == y.neg)) hr).mono fun v V2 _ ⟨w, hv, hw⟩ => ⟨w, hv, w, rfl, ?_⟩
 have e : (if (!(x.neg == y.neg)) = true then -((a.natAbs * b.natAbs : Nat) : Int) else ((a.natAbs * b.natAbs : Nat) : Int)) = a * b := by
  rw [S0t _ _ a b rfl rfl, hx.1, hy.1]
  by_cases p : a < 0 <;> by_cases q : b < 0 <;> simp [p, q]
 rw [e] at hw; exact hw
theorem M01 {V : View} {x : WhV} {s : Sl} {a : Int} {n : Nat} (hx : N04 V x a) (hs : F01 V s n) (ha : wn a.natAbs ≤ 2 ^ 43) (hb : wn n ≤ 2 ^ 43) :
 a00 prog f0g #[x.val, s.v] V fun v V' => ∃ r : WhV, v = r.val ∧ N04 V' r (a * n) := by
 refine Y0e x s V _ ((N06 hx.2 hs (by omega) (by omega)).mono fun v V1 l1 ⟨r, hv, hr⟩ => ⟨r, hv, ?_⟩)
 refine (W02 x.neg hr).mono fun v V2 _ ⟨w, hv, hw⟩ => ⟨w, hv, w, rfl, ?_⟩
 have e : (if x.neg = true then -((a.natAbs * n : Nat) : Int) else ((a.natAbs * n : Nat) : Int)) = a * n := by
  conv => rhs; rw [hx.val]
  rw [Int.natCast_mul]; split
  · rw [Int.neg_mul]
  · rfl
 rw [e] at hw; exact hw
theorem u06 {V : View} {x y : WhV} {a b : Int} (hx : N04 V x a) (hy : N04 V y b) (ha : wn a.natAbs ≤ 2 ^ 43) (hb : wn b.natAbs ≤ 2 ^ 43) :
 a00 prog P0l #[x.val, y.val] V fun v _ => v = .int .i64 (cmpZ a b) := by
 refine d0k x y V _ ((L03 hy).mono fun v V1 l1 ⟨r, hv, hr⟩ => ⟨r, hv, ?_⟩)
 refine (E04 (hx.le l1) hr ha (by rw [Int.natAbs_neg]; exact hb)).mono fun v V2 l2 ⟨w, hv, hw⟩ => ⟨w, hv, fun h => ?_, fun h => ?_⟩
 · have : a + -b < 0 := by have := hw.1; rw [h] at this; simpa using this
   rw [o0r (by omega)]
 · have h1 : ¬ a + -b < 0 := by have := hw.1; rw [h] at this; simpa using this
   have h2 := hw.2.len_zero
   by_cases e : a = b
   · have : w.mag.len = 0 := h2.2 (by omega)
     rw [p0r e, this]; rfl
   · have : w.mag.len ≠ 0 := fun h => by have := h2.1 h; omega
     rw [q0r (by omega)]
     congr 1; split <;> omega
theorem Q03 {V : View} {x y : WhV} {s : Sl} {z : Cq} {a b : Int} {d : Nat} (hx : N04 V x a) (hy : N04 V y b) (hs : F01 V s d) (hz : Rep z a b d) (ha : wn a.natAbs ≤ 2 ^ 43) (hb : wn b.natAbs ≤ 2 ^ 43) (hd : wn d ≤ 2 ^ 43) :
 a00 prog M0o #[x.val, y.val, s.v] V fun v V' => ∃ r : NumV, v = r.val ∧ n02 V' r z := by
 obtain ⟨e1, e2, e3⟩ := hz.eqs
 have hp := y0n a b hz.pos
 have d1 := j0f a b d
 have d2 := k0f a b d
 have d3 := C0k a b d
 refine k0m x y s V _ ((L0d hx.2 hy.2 ha hb).mono fun v V1 l1 ⟨r1, hv, h1⟩ => ⟨r1, hv, ?_⟩)
 have hw1 : wn (Nat.gcd a.natAbs b.natAbs) ≤ 2 ^ 43 := by
  rcases Nat.eq_zero_or_pos a.natAbs with h | h
  · rw [h, Nat.gcd_zero_left]; exact hb
  · exact Nat.le_trans (B0b (Nat.le_of_dvd h (Nat.gcd_dvd_left _ _))) ha
 refine (L0d h1 (hs.le l1) hw1 hd).mono fun v V2 l2 ⟨r2, hv, h2⟩ => ⟨r2, hv, ?_⟩
 have hg : Nat.gcd (Nat.gcd a.natAbs b.natAbs) d = gcd3 a b d := rfl
 rw [hg] at h2
 refine (d0a h2).mono fun v V3 l3 hv => ⟨_, hv, fun hn => ?_, fun hn => ?_⟩
 · have l13 := View.le_trans l1 (View.le_trans l2 l3)
   refine (O06 (hx.2.le l13) (h2.le l3) ha (by omega)).mono fun v V4 l4 ⟨q1, m1, hv, hq1, _⟩ => ⟨q1, m1, hv, ?_⟩
   refine (O06 (hy.2.le (View.le_trans l13 l4)) (h2.le (View.le_trans l3 l4)) hb (by omega)).mono fun v V5 l5 ⟨q2, m2, hv, hq2, _⟩ => ⟨q2, m2, hv, ?_⟩
   have l45 := View.le_trans l4 l5
   refine (O06 (hs.le (View.le_trans l13 l45)) (h2.le (View.le_trans l3 l45)) hd (by omega)).mono fun v V6 l6 ⟨q3, m3, hv, hq3, _⟩ => ⟨q3, m3, hv, ?_⟩
   have f1 : N04 V6 (WhV.mk x.neg q1) z.A := ⟨by rw [e1, l0f d1 hp]; exact hx.1, by rw [e1, o07 d1]; exact hq1.le (View.le_trans l5 l6)⟩
   have f2 : N04 V6 (WhV.mk y.neg q2) z.B := ⟨by rw [e2, l0f d2 hp]; exact hy.1, by rw [e2, o07 d2]; exact hq2.le l6⟩
   refine (d0a hq3).mono fun v V7 l7 hv => ⟨_, hv, fun h => ⟨_, rfl, f1.le l7, f2.le l7, ?_⟩, fun h => ⟨_, rfl, f1.le l7, f2.le l7, ?_⟩⟩
   · simp only [decide_eq_true_eq] at h
     rw [e3, if_pos h]; exact F01.zero V7
   · simp only [decide_eq_false_iff_not] at h
     rw [e3, if_neg h]; exact hq3.le l7
 · simp only [Bool.not_eq_false', decide_eq_true_eq] at hn
   rw [hn] at e1 e2 e3
   simp only [Int.natCast_one, Int.ediv_one] at e1 e2
   rw [Nat.div_one] at e3
   have l13 := View.le_trans l1 (View.le_trans l2 l3)
   refine (d0a (hs.le l13)).mono fun v V7 l7 hv => ⟨_, hv, fun h => ⟨_, rfl, ?_, ?_, ?_⟩, fun h => ⟨_, rfl, ?_, ?_, ?_⟩⟩
   · rw [e1]; exact hx.le (View.le_trans l13 l7)
   · rw [e2]; exact hy.le (View.le_trans l13 l7)
   · simp only [decide_eq_true_eq] at h
     rw [e3, if_pos h]; exact F01.zero V7
   · rw [e1]; exact hx.le (View.le_trans l13 l7)
   · rw [e2]; exact hy.le (View.le_trans l13 l7)
   · simp only [decide_eq_false_iff_not] at h
     rw [e3, if_neg h]; exact hs.le (View.le_trans l13 l7)
theorem T01 {V : View} {x : NumV} {z : Cq} (h : n02 V x z) : a00 prog H0q #[x.val] V fun v V' => ∃ r : Sl, v = r.v ∧ F01 V' r z.D := by
 have hu := h.under
 have hl := hu.len_zero
 have hD := z.D_pos
 refine k0p x V _ ⟨fun h0 => ?_, fun h0 => ?_⟩
 · have h0 : x.under.len = 0 := by have : (x.under.len : Int) = 0 := (by simpa using h0); omega
   intro b V1 l1 _ hb
   have hz := hl.1 h0
   have h1 : z.D = 1 := by split at hz <;> omega
   refine ⟨_, rfl, ?_⟩
   rw [h1]
   have : dig 1 = [1] := by rw [x05 (by omega)]; simp [s04]
   unfold F01; rw [this]
   exact N02.of_block (by rw [hb]; rfl) rfl (Nat.le_refl _) (by intro d hd; simp at hd; omega)
 · have h0 : x.under.len ≠ 0 := by have : ¬ (x.under.len : Int) = 0 := (by simpa using h0); omega
   refine ⟨_, rfl, ?_⟩
   have hz : ¬ (if z.D = 1 then 0 else z.D) = 0 := fun e => h0 (hl.2 e)
   split at hz
   · omega
   · rename_i h1; rw [if_neg h1] at hu; exact hu
theorem P05 {V : View} {n : Int} (h0 : -9223372036854775808 ≤ n) (h1 : n ≤ 9223372036854775807) :
 a00 prog E0q #[.int .i64 n] V fun v V' => ∃ r : NumV, v = r.val ∧ n02 V' r ⟨(n : Rat), 0⟩ := by
 obtain ⟨e1, e2, e3⟩ := X0d n
 refine l0p n V _ ((j07 h0 h1).mono fun v V1 _ ⟨r, hv, hr⟩ => ⟨r, hv, _, rfl, by rw [e1]; exact hr, by rw [e2]; exact N04.zero _, by rw [e3]; exact F01.zero _⟩)
theorem wn64 {n : Nat} (h : n ≤ 18446744073709551615) : wn n ≤ 2 ^ 43 := by
 have : wn n ≤ 2 := c05 (by omega)
 omega
theorem M0d {V : View} {p q d : Int} (p0 : -9223372036854775808 ≤ p) (p1 : p ≤ 9223372036854775807) (q0 : -9223372036854775808 ≤ q) (q1 : q ≤ 9223372036854775807) (d0 : -9223372036854775808 ≤ d) (d1 : d ≤ 9223372036854775807) (hd : d ≠ 0) :
 a00 prog G0q #[.int .i64 p, .int .i64 q, .int .i64 d] V fun v V' => ∃ r : NumV, v = .tuple #[r.val, .int .i64 0] ∧ n02 V' r ⟨(p : Rat) / (d : Rat), (q : Rat) / (d : Rat)⟩ := by
 refine m0p p q d V _ ⟨fun h => ?_, fun _ => ?_⟩
 · exact absurd (by simpa using h) hd
 refine (j07 p0 p1).mono fun v V1 l1 ⟨a, hv, ha⟩ => ⟨a, hv, ?_⟩
 refine (j07 q0 q1).mono fun v V2 l2 ⟨b, hv, hb⟩ => ⟨b, hv, ?_⟩
 refine (j07 d0 d1).mono fun v V3 l3 ⟨c, hv, hc⟩ => ⟨c, hv, fun hn => ?_, fun hn => ?_⟩
 · have hneg : d < 0 := by have := hc.1; rw [hn] at this; simpa using this.symm
   refine (L03 (ha.le (View.le_trans l2 l3))).mono fun v V4 l4 ⟨a', hv, ha'⟩ => ⟨a', hv, ?_⟩
   refine (L03 (hb.le (View.le_trans l3 l4))).mono fun v V5 l5 ⟨b', hv, hb'⟩ => ⟨b', hv, ?_⟩
   refine (Q03 (ha'.le l5) hb' (hc.2.le (View.le_trans l4 l5)) ?_ (wn64 (by omega)) (wn64 (by omega)) (wn64 (by omega))).mono fun v V6 l6 ⟨r, hv, hr⟩ => ⟨r, hv, r, rfl, hr⟩
   have e : ((d.natAbs : Nat) : Rat) = -(d : Rat) := by
    have : (d.natAbs : Int) = -d := by omega
    rw [← Rat.intCast_natCast, this]; push_cast; rfl
   refine ⟨by omega, ?_, ?_⟩ <;> (simp only [e]; push_cast; rw [Rat.div_def, Rat.div_def]; grind)
 · have hpos : ¬ d < 0 := by have := hc.1; rw [hn] at this; simpa using this.symm
   refine (Q03 (ha.le (View.le_trans l2 l3)) (hb.le l3) hc.2 ?_ (wn64 (by omega)) (wn64 (by omega)) (wn64 (by omega))).mono fun v V6 l6 ⟨r, hv, hr⟩ => ⟨r, hv, r, rfl, hr⟩
   have e : ((d.natAbs : Nat) : Rat) = (d : Rat) := by
    have : (d.natAbs : Int) = d := by omega
    rw [← Rat.intCast_natCast, this]
   refine ⟨by omega, ?_, ?_⟩ <;> simp only [e]
theorem Cq.wA {z : Cq} (h : z.sz ≤ 2 ^ 40) : wn z.A.natAbs ≤ 2 ^ 35 := n0f (by have := z.szA; omega)
theorem Cq.wB {z : Cq} (h : z.sz ≤ 2 ^ 40) : wn z.B.natAbs ≤ 2 ^ 35 := n0f (by have := z.szB; omega)
theorem Cq.wD {z : Cq} (h : z.sz ≤ 2 ^ 40) : wn z.D ≤ 2 ^ 35 := n0f (by have := z.szD; omega)
theorem y05 {a b : Int} {k : Nat} (ha : wn a.natAbs ≤ k) (hb : wn b.natAbs ≤ k) : wn (a * b).natAbs ≤ 2 * k := by
 rw [Int.natAbs_mul]; have := S09 a.natAbs b.natAbs; omega
theorem E0f {a b : Int} {k : Nat} (ha : wn a.natAbs ≤ k) (hb : wn b.natAbs ≤ k) : wn (a + b).natAbs ≤ k + 1 := by
 have := B0b (Int.natAbs_add_le a b); have := e0r a.natAbs b.natAbs; omega
theorem Q0v {a : Int} {k : Nat} (ha : wn a.natAbs ≤ k) : wn (-a).natAbs ≤ k := by rw [Int.natAbs_neg]; exact ha
theorem b08 {V : View} {x y : NumV} {z w : Cq} (hx : n02 V x z) (hy : n02 V y w) (hz : z.sz ≤ 2 ^ 40) (hw : w.sz ≤ 2 ^ 40) :
 a00 prog B0q #[x.val, y.val] V fun v V' => ∃ r : NumV, v = r.val ∧ n02 V' r (z + w) := by
 have zA := Cq.wA hz; have zB := Cq.wB hz; have zD := Cq.wD hz
 have wA := Cq.wA hw; have wB := Cq.wB hw; have wD := Cq.wD hw
 have zD' : wn (z.D : Int).natAbs ≤ 2 ^ 35 := zD
 have wD' : wn (w.D : Int).natAbs ≤ 2 ^ 35 := wD
 have s1 := y05 zA wD'; have s2 := y05 wA zD'; have s3 := y05 zB wD'; have s4 := y05 wB zD'
 have s5 := E0f s1 s2; have s6 := E0f s3 s4
 have s7 := S09 z.D w.D
 refine n0p x y V _ ((T01 hx).mono fun v V1 l1 ⟨r1, hv, h1⟩ => ⟨r1, hv, ?_⟩)
 replace hx := hx.le l1; replace hy := hy.le l1
 refine (T01 hy).mono fun v V2 l2 ⟨r2, hv, h2⟩ => ⟨r2, hv, ?_⟩
 replace hx := hx.le l2; replace hy := hy.le l2; replace h1 := h1.le l2
 refine (M01 hx.re h2 (by omega) (by omega)).mono fun v V3 l3 ⟨r3, hv, h3⟩ => ⟨r3, hv, ?_⟩
 replace hx := hx.le l3; replace hy := hy.le l3; replace h1 := h1.le l3; replace h2 := h2.le l3
 refine (M01 hy.re h1 (by omega) (by omega)).mono fun v V4 l4 ⟨r4, hv, h4⟩ => ⟨r4, hv, ?_⟩
 replace hx := hx.le l4; replace hy := hy.le l4; replace h1 := h1.le l4; replace h2 := h2.le l4; replace h3 := h3.le l4
 refine (E04 h3 h4 (by omega) (by omega)).mono fun v V5 l5 ⟨r5, hv, h5⟩ => ⟨r5, hv, ?_⟩
 replace hx := hx.le l5; replace hy := hy.le l5; replace h1 := h1.le l5; replace h2 := h2.le l5
 refine (M01 hx.im h2 (by omega) (by omega)).mono fun v V6 l6 ⟨r6, hv, h6⟩ => ⟨r6, hv, ?_⟩
 replace hy := hy.le l6; replace h1 := h1.le l6; replace h2 := h2.le l6; replace h5 := h5.le l6
 refine (M01 hy.im h1 (by omega) (by omega)).mono fun v V7 l7 ⟨r7, hv, h7⟩ => ⟨r7, hv, ?_⟩
 replace h1 := h1.le l7; replace h2 := h2.le l7; replace h5 := h5.le l7; replace h6 := h6.le l7
 refine (E04 h6 h7 (by omega) (by omega)).mono fun v V8 l8 ⟨r8, hv, h8⟩ => ⟨r8, hv, ?_⟩
 replace h1 := h1.le l8; replace h2 := h2.le l8; replace h5 := h5.le l8
 refine (N06 h1 h2 (by omega) (by omega)).mono fun v V9 l9 ⟨r9, hv, h9⟩ => ⟨r9, hv, ?_⟩
 exact (Q03 (h5.le l9) (h8.le l9) h9 (z.canon.rep.add w.canon.rep) (by omega) (by omega) (by omega)).mono fun v V10 _ ⟨r, hv, hr⟩ => ⟨r, hv, r, rfl, hr⟩
theorem i0a {V : View} {x : NumV} {z : Cq} (hx : n02 V x z) : a00 prog M0j #[x.val] V fun v V' => ∃ r : NumV, v = r.val ∧ n02 V' r (-z) := by
 obtain ⟨e1, e2, e3⟩ := z.neg_eqs
 refine o0p x V _ ((L03 hx.re).mono fun v V1 l1 ⟨r1, hv, h1⟩ => ⟨r1, hv, ?_⟩)
 exact (L03 (hx.im.le l1)).mono fun v V2 l2 ⟨r2, hv, h2⟩ => ⟨r2, hv, _, rfl, by rw [e1]; exact h1.le l2, by rw [e2]; exact h2, by rw [e3]; exact hx.under.le (View.le_trans l1 l2)⟩
theorem j0a {V : View} {x y : NumV} {z w : Cq} (hx : n02 V x z) (hy : n02 V y w) (hz : z.sz ≤ 2 ^ 40) (hw : w.sz ≤ 2 ^ 40) :
 a00 prog O0e #[x.val, y.val] V fun v V' => ∃ r : NumV, v = r.val ∧ n02 V' r (z - w) := by
 refine p0p x y V _ ((i0a hy).mono fun v V1 l1 ⟨r1, hv, h1⟩ => ⟨r1, hv, ?_⟩)
 rw [Cq.sub_eq]
 exact (b08 (hx.le l1) h1 hz (by rw [O0c]; exact hw)).mono fun v V2 _ ⟨r, hv, hr⟩ => ⟨r, hv, r, rfl, hr⟩
theorem Q05 {V : View} {x y : NumV} {z w : Cq} (hx : n02 V x z) (hy : n02 V y w) (hz : z.sz ≤ 2 ^ 40) (hw : w.sz ≤ 2 ^ 40) :
 a00 prog T0e #[x.val, y.val] V fun v V' => ∃ r : NumV, v = r.val ∧ n02 V' r (z * w) := by
 have zA := Cq.wA hz; have zB := Cq.wB hz; have zD := Cq.wD hz
 have wA := Cq.wA hw; have wB := Cq.wB hw; have wD := Cq.wD hw
 have s1 := y05 zA wA; have s2 := y05 zB wB; have s2' := Q0v s2; have s3 := y05 zA wB; have s4 := y05 zB wA
 have s5 := E0f s1 s2'; have s6 := E0f s3 s4
 have s7 := S09 z.D w.D
 refine q0p x y V _ ((l04 hx.re hy.re (by omega) (by omega)).mono fun v V1 l1 ⟨r1, hv, h1⟩ => ⟨r1, hv, ?_⟩)
 replace hx := hx.le l1; replace hy := hy.le l1
 refine (l04 hx.im hy.im (by omega) (by omega)).mono fun v V2 l2 ⟨r2, hv, h2⟩ => ⟨r2, hv, ?_⟩
 replace hx := hx.le l2; replace hy := hy.le l2; replace h1 := h1.le l2
 refine (L03 h2).mono fun v V3 l3 ⟨r3, hv, h3⟩ => ⟨r3, hv, ?_⟩
 replace hx := hx.le l3; replace hy := hy.le l3; replace h1 := h1.le l3
 refine (E04 h1 h3 (by omega) (by omega)).mono fun v V4 l4 ⟨r4, hv, h4⟩ => ⟨r4, hv, ?_⟩
 replace hx := hx.le l4; replace hy := hy.le l4
 refine (l04 hx.re hy.im (by omega) (by omega)).mono fun v V5 l5 ⟨r5, hv, h5⟩ => ⟨r5, hv, ?_⟩
 replace hx := hx.le l5; replace hy := hy.le l5; replace h4 := h4.le l5
 refine (l04 hx.im hy.re (by omega) (by omega)).mono fun v V6 l6 ⟨r6, hv, h6⟩ => ⟨r6, hv, ?_⟩
 replace hx := hx.le l6; replace hy := hy.le l6; replace h4 := h4.le l6; replace h5 := h5.le l6
 refine (E04 h5 h6 (by omega) (by omega)).mono fun v V7 l7 ⟨r7, hv, h7⟩ => ⟨r7, hv, ?_⟩
 replace hx := hx.le l7; replace hy := hy.le l7; replace h4 := h4.le l7
 refine (T01 hx).mono fun v V8 l8 ⟨r8, hv, h8⟩ => ⟨r8, hv, ?_⟩
 replace hy := hy.le l8; replace h4 := h4.le l8; replace h7 := h7.le l8
 refine (T01 hy).mono fun v V9 l9 ⟨r9, hv, h9⟩ => ⟨r9, hv, ?_⟩
 replace h4 := h4.le l9; replace h7 := h7.le l9; replace h8 := h8.le l9
 refine (N06 h8 h9 (by omega) (by omega)).mono fun v V10 l10 ⟨r10, hv, h10⟩ => ⟨r10, hv, ?_⟩
 refine (Q03 (h4.le l10) (h7.le l10) h10 ?_ (by omega) (by omega) (by omega)).mono fun v V11 _ ⟨r, hv, hr⟩ => ⟨r, hv, r, rfl, hr⟩
 rw [← Int.sub_eq_add_neg]; exact z.canon.rep.mul w.canon.rep
theorem c0j {V : View} {x y : NumV} {z w : Cq} (hx : n02 V x z) (hy : n02 V y w) (hz : z.sz ≤ 2 ^ 40) (hw : w.sz ≤ 2 ^ 40) :
 a00 prog Y0g #[x.val, y.val] V fun v _ => v = .bool (decide (z = w)) := by
 have zA := Cq.wA hz; have zB := Cq.wB hz; have zD := Cq.wD hz
 have wA := Cq.wA hw; have wB := Cq.wB hw; have wD := Cq.wD hw
 refine l0m x y V _ ((u06 hx.re hy.re (by omega) (by omega)).mono fun v V1 l1 hv => ⟨_, hv, fun h1 => ?_, fun h1 => ⟨(fun h => by cases h), fun _ => ?_⟩⟩)
 · have h1 : z.A = w.A := m0c.1 (by simpa using h1)
   refine (u06 (hx.im.le l1) (hy.im.le l1) (by omega) (by omega)).mono fun v V2 l2 hv => ⟨_, hv, fun h2 => ?_, fun h2 => ?_⟩
   · have h2 : z.B = w.B := m0c.1 (by simpa using h2)
     refine (M06 (hx.under.le (View.le_trans l1 l2)) (hy.under.le (View.le_trans l1 l2)) ?_).mono fun v V3 l3 hv => ⟨_, hv, ?_⟩
     · split
       · rw [k09]; omega
       · omega
     · have hD1 := z.D_pos
       have hD2 := w.D_pos
       congr 1
       by_cases e : z.D = w.D
       · have : z = w := e0u h1 h2 e
         subst this; simp
       · have : z ≠ w := by rintro rfl; exact e rfl
         simp only [this, decide_false]
         have h3 : (if z.D = 1 then 0 else z.D) ≠ (if w.D = 1 then 0 else w.D) := by split <;> split <;> omega
         rw [if_neg h3]
         by_cases h : (if z.D = 1 then 0 else z.D) < (if w.D = 1 then 0 else w.D)
         · rw [if_pos h]; rfl
         · rw [if_neg h]; rfl
   · have h2 : ¬ z.B = w.B := fun e => by rw [m0c.2 e] at h2; simp at h2
     have : z ≠ w := by rintro rfl; exact h2 rfl
     simp [this]
 · have h1 : ¬ z.A = w.A := fun e => by rw [m0c.2 e] at h1; simp at h1
   have : z ≠ w := by rintro rfl; exact h1 rfl
   simp [this]
theorem q09 {V : View} {x : NumV} {z : Cq} (hx : n02 V x z) : a00 prog O0o #[x.val] V fun v _ => v = .bool (decide (z.im = 0)) := by
 refine m0m x V _ ?_
 have h1 := hx.im.2.len_zero
 have h2 := Cq.B_zero (z := z)
 congr 1
 by_cases e : z.im = 0
 · have : x.im.mag.len = 0 := h1.2 (by rw [h2.2 e]; rfl)
   simp [e, this]
 · have : x.im.mag.len ≠ 0 := fun h => e (h2.1 (by have := h1.1 h; omega))
   simp only [e, decide_false, beq_eq_false_iff_ne, ne_eq]; omega
theorem c0l {V : View} {x y : NumV} {z w : Cq} (hx : n02 V x z) (hy : n02 V y w) (hz : z.sz ≤ 2 ^ 40) (hw : w.sz ≤ 2 ^ 40) :
 a00 prog D0q #[x.val, y.val] V fun v _ => v = .int .i64 (z.cmp w) := by
 have zA := Cq.wA hz; have zB := Cq.wB hz; have zD := Cq.wD hz
 have wA := Cq.wA hw; have wB := Cq.wB hw; have wD := Cq.wD hw
 have zD' : wn (z.D : Int).natAbs ≤ 2 ^ 35 := zD
 have wD' : wn (w.D : Int).natAbs ≤ 2 ^ 35 := wD
 have s1 := y05 zA wD'; have s2 := y05 wA zD'; have s3 := y05 zB wD'; have s4 := y05 wB zD'
 have c1 : cmpZ (z.A * w.D) (w.A * z.D) = cmpR z.re w.re := by rw [o0u z.D_pos w.D_pos, ← z.canon.rep.re, ← w.canon.rep.re]
 have c2 : cmpZ (z.B * w.D) (w.B * z.D) = cmpR z.im w.im := by rw [o0u z.D_pos w.D_pos, ← z.canon.rep.im, ← w.canon.rep.im]
 refine s0p x y V _ ((T01 hy).mono fun v V1 l1 ⟨r1, hv, h1⟩ => ⟨r1, hv, ?_⟩)
 replace hx := hx.le l1; replace hy := hy.le l1
 refine (M01 hx.re h1 (by omega) (by omega)).mono fun v V2 l2 ⟨r2, hv, h2⟩ => ⟨r2, hv, ?_⟩
 replace hx := hx.le l2; replace hy := hy.le l2
 refine (T01 hx).mono fun v V3 l3 ⟨r3, hv, h3⟩ => ⟨r3, hv, ?_⟩
 replace hx := hx.le l3; replace hy := hy.le l3; replace h2 := h2.le l3
 refine (M01 hy.re h3 (by omega) (by omega)).mono fun v V4 l4 ⟨r4, hv, h4⟩ => ⟨r4, hv, ?_⟩
 replace hx := hx.le l4; replace hy := hy.le l4; replace h2 := h2.le l4
 refine (u06 h2 h4 (by omega) (by omega)).mono fun v V5 l5 hv => ⟨_, hv, fun hn => ?_, fun hn => ?_⟩
 · rw [c1] at hn ⊢
   have hn : cmpR z.re w.re ≠ 0 := by simpa using hn
   unfold Cq.cmp; rw [if_pos hn]
 · rw [c1] at hn
   have hn : ¬ cmpR z.re w.re ≠ 0 := by simpa using hn
   replace hx := hx.le l5; replace hy := hy.le l5
   refine (T01 hy).mono fun v V6 l6 ⟨r6, hv, h6⟩ => ⟨r6, hv, ?_⟩
   replace hx := hx.le l6; replace hy := hy.le l6
   refine (M01 hx.im h6 (by omega) (by omega)).mono fun v V7 l7 ⟨r7, hv, h7⟩ => ⟨r7, hv, ?_⟩
   replace hx := hx.le l7; replace hy := hy.le l7
   refine (T01 hx).mono fun v V8 l8 ⟨r8, hv, h8⟩ => ⟨r8, hv, ?_⟩
   replace hx := hx.le l8; replace hy := hy.le l8; replace h7 := h7.le l8
   refine (M01 hy.im h8 (by omega) (by omega)).mono fun v V9 l9 ⟨r9, hv, h9⟩ => ⟨r9, hv, ?_⟩
   replace h7 := h7.le l9
   refine (u06 h7 h9 (by omega) (by omega)).mono fun v V10 l10 hv => ⟨_, hv, ?_⟩
   unfold Cq.cmp; rw [if_neg hn, c2]
theorem Q0m {V : View} {x y : NumV} {w : Cq} (hy : n02 V y w) : a00 prog t0n #[x.val, y.val] V fun v V' => ∃ r : NumV, v = r.val ∧ n02 V' r w :=
 Y0q x y V _ ⟨y, rfl, hy⟩

def ratQ (r : RatV) : Cq := if r.den = 0 then ⟨(r.re : Rat), (r.im : Rat)⟩ else ⟨(r.re : Rat) / (r.den : Rat), (r.im : Rat) / (r.den : Rat)⟩
def ratI (r : RatV) : Prop := (-9223372036854775808 ≤ r.re ∧ r.re ≤ 9223372036854775807) ∧ (-9223372036854775808 ≤ r.im ∧ r.im ≤ 9223372036854775807) ∧ (-9223372036854775808 ≤ r.den ∧ r.den ≤ 9223372036854775807)
def ratC (_ : View) (x : List Value) (r : RatV) : Prop := x = r.val.cells.toList
def F0f (V : View) (s : Sl) (rs : List RatV) : Prop := s00 3 ratC V s rs
theorem F0f.le {V V' : View} (hle : V.le V') {s : Sl} {rs : List RatV} (h : F0f V s rs) : F0f V' s rs := s00.le (P := ratC) (V := V) (V' := V') (fun _ _ h => h) hle h
theorem N0d {V : View} {r : RatV} (h : ratI r) : a00 prog A0q #[r.val] V fun v V' => ∃ x : NumV, v = x.val ∧ n02 V' x (ratQ r) := by
 obtain ⟨⟨a1, a2⟩, ⟨b1, b2⟩, ⟨c1, c2⟩⟩ := h
 refine t0p r V _ ⟨fun h0 => ?_, fun h0 => ?_⟩
 · have h0 : r.den = 0 := by simpa using h0
   refine (M0d a1 a2 b1 b2 (by omega) (by omega) (by omega)).mono fun v V1 _ ⟨x, hv, hx⟩ => ⟨x, 0, hv, x, rfl, ?_⟩
   have e : ratQ r = ⟨(r.re : Rat) / ((1 : Int) : Rat), (r.im : Rat) / ((1 : Int) : Rat)⟩ := by
    unfold ratQ; rw [if_pos h0]; simp only [Rat.div_def, Cq.mk.injEq]; constructor <;> grind
   rw [e]; exact hx
 · have h0 : r.den ≠ 0 := by simpa using h0
   refine (M0d a1 a2 b1 b2 c1 c2 h0).mono fun v V1 _ ⟨x, hv, hx⟩ => ⟨x, 0, hv, x, rfl, ?_⟩
   unfold ratQ; rw [if_neg h0]; exact hx
theorem l0b {V : View} {s : Sl} {rs : List RatV} (h : F0f V s rs) (hi : ∀ r ∈ rs, ratI r) (hn : rs.length ≤ 2 ^ 32) :
 a00 prog O0l #[s.v] V fun v V' => ∃ r : Sl, v = r.v ∧ g0b V' r (rs.map ratQ) := by
 have hl := h.len
 let f : Nat → Cq := fun i => nth (rs.map ratQ) i
 refine e0k s V _ (fun _ x V' => 0 ≤ x.t11 ∧ x.t11 ≤ s.len ∧ i0b V' x.o8 (j0b s.len x.t11.toNat f)) (fun _ x _ => s.len - x.t11.toNat)
  ⟨⟨by omega, by omega, by omega, by omega⟩, ⟨by simp, by simp, ?_⟩, ?_⟩
 · simp only [Int.toNat_zero, B0m, Int.toNat_natCast]; exact i0b.zeros _ _
 rintro ⟨t, o⟩ V1 l1 ⟨h0, h1, ho⟩
 simp only at h0 h1 ho ⊢
 refine ⟨fun hlt => ?_, fun hge => ?_⟩
 · simp only [decide_eq_true_eq] at hlt
   have hk : t.toNat < rs.length := by omega
   obtain ⟨hb, x, hx, _, hh, hs⟩ := (h.le l1).get h0 (z := rs[t.toNat]) (by simp [hk])
   refine ⟨hb, rs[t.toNat], hx ▸ hh, hs, (N0d (hi _ (List.getElem_mem _))).mono fun v V2 l2 ⟨r, hv, hr⟩ => ⟨r, hv, ⟨h0, by simpa using hlt⟩, ?_, ?_⟩⟩
   · exact G01.room ho (by rw [n0c (by omega)]; omega)
   · have e : i64.wrap (t + 1) = t + 1 := i64w (by omega) (by omega)
     have e2 : (t + 1).toNat = t.toNat + 1 := by omega
     have ef : f t.toNat = ratQ rs[t.toNat] := by simp [f, nth, List.getD, hk]
     refine ⟨⟨by rw [e]; omega, by rw [e]; omega, ?_⟩, by simp only [e, e2]; omega⟩
     simp only [e, e2]
     rw [← J0p (by omega), ef]
     exact (ho.le l2).set (by rw [n0c (by omega)]; omega) hr
 · simp only [decide_eq_false_iff_not] at hge
   intro b V3 l3 hb
   have e : t.toNat = s.len := by omega
   rw [e, I0p] at ho
   have e2 : (List.range s.len).map f = rs.map ratQ := by
    have := C0m (rs.map ratQ)
    rw [List.length_map] at this
    rw [hl]; exact this
   rw [e2] at ho
   exact ⟨_, rfl, T04 hb (ho.le l3) (by simp [hl])⟩
end Go.Proofs.YtefkpimcffofaaaGreat
namespace Go.Proofs.YtefkpimcffofaaaGreat
open Go Go.Vc Go.Proofs Go.ChangeShapes Go.RowKit
structure T0t (P : Program) (t : TypeId) : Prop where
 fields : ∃ f0 f1 f2 : Field, P.underlying t = some (.struct #[f0, f1, f2]) ∧ (f0.offset = 0 ∧ f1.offset = 1 ∧ f2.offset = 2) ∧
  (P.underlying f0.type = some (.int .i64) ∧ P.underlying f1.type = some (.int .i64) ∧ P.underlying f2.type = some (.int .i64)) ∧ (P.cellsOf f0.type = 1 ∧ P.cellsOf f1.type = 1 ∧ P.cellsOf f2.type = 1)
 cells : P.cellsOf t = 3
section
variable {H : Type} {enc : TypeId × Value → H} {P : Program} {w : World} {base : Nat} {spare : Nat → Bool} {held : Bool}
theorem L0n {t : TypeId} {fuel : Nat} {cs : List Value} {x : DataW H × List MemPlace} (ht : T0t P t) (h : DataW.trod enc P w base spare held fuel t cs = some x) : ∃ r : RatV, ratI r ∧ cs = r.val.cells.toList := by
 obtain ⟨f0, f1, f2, hR, ⟨o0, o1, o2⟩, ⟨i0, i1, i2⟩, c0, c1, c2⟩ := ht.fields
 obtain ⟨xs, n, _, _, hl, hxs, hf⟩ := DataW.trod_struct hR h
 rw [ht.cells] at hl
 match cs, hl with
 | [a, b, c], _ =>
   have g0 := hf 0 f0 rfl
   have g1 := hf 1 f1 rfl
   have g2 := hf 2 f2 rfl
   rw [o0, c0] at g0
   rw [o1, c1] at g1
   rw [o2, c2] at g2
   have hs : xs.length = 3 := hxs
   match xs, hs with
   | [y0, y1, y2], _ =>
     obtain ⟨n0, e0, _, w0⟩ := DataW.trod_int i0 g0
     obtain ⟨n1, e1, _, w1⟩ := DataW.trod_int i1 g1
     obtain ⟨n2, e2, _, w2⟩ := DataW.trod_int i2 g2
     simp at e0 e1 e2
     subst e0; subst e1; subst e2
     exact ⟨⟨n0, n1, n2⟩, ⟨bounds_i64 w0, bounds_i64 w1, bounds_i64 w2⟩, rfl⟩
end
theorem a00.fits {P : Program} {f : FuncId} {args : Array Value} {r : Value} {V : View} (h : a00 P f args V fun v _ => v = r) {w : World} (hw : V.In w) :
 Calls P f args w fun e w' => e = .returned r ∧ Below w.heap.size w w' :=
 (h w hw).mono fun _ _ ⟨_, _, he, _, _, _, hb, hr⟩ => ⟨by rw [he, hr], hb⟩
theorem z0c {H : Type} {enc : TypeId × Value → H} {P : Program} (hl : laidOutB P = true) {W W' : World} (hb : Below W.heap.size W W') :
 ∀ {ts : List TypeId} {vs : List Value} {ds : List (DataW H)} {ps : List MemPlace}, (∀ t ∈ ts, P.readableRec t = true ∧ t < P.types.size) → (∀ p ∈ ps, p.block < W.heap.size) →
 DataW.TrodAll enc P W 0 (fun _ => true) true ts vs ds ps → DataW.TrodAll enc P W' 0 (fun b => decide (b < W.heap.size)) true ts vs ds ps
 | [], [], [], _, _, _, h => h
 | t :: ts, v :: vs, d :: ds, ps, ht, hlt, ⟨p, q, h1, h2, e⟩ => by
   subst e
   exact ⟨p, q, Below.trod hl (ht t (by simp)).1 (ht t (by simp)).2 h1 hb (fun x hx => hlt x (by simp [hx])),
    z0c hl hb (fun t' ht' => ht t' (by simp [ht'])) (fun x hx => hlt x (by simp [hx])) h2, rfl⟩
 | [], [], _ :: _, _, _, _, h => h.elim
 | [], _ :: _, _, _, _, _, h => h.elim
 | _ :: _, [], _, _, _, _, h => h.elim
 | _ :: _, _ :: _, [], _, _, _, h => h.elim
theorem d0l {H : Type} {enc : TypeId × Value → H} {P : Program} {f : Func} {s : ChangeSpec} {apart fresh handsOn : Bool} {W W' : World} {args : Array Value} {v : Value} {ds : List (DataW H)} {before : List MemPlace}
 (hl : laidOutB P = true) (ht : ∀ t ∈ f.params.toList, P.readableRec t = true ∧ t < P.types.size)
 (hW : DataW.Whole enc P f.params.toList s.vars apart W args.toList ds [] before) (hA : DataW.TrodAll enc P W 0 (fun _ => true) true f.params.toList args.toList ds before)
 (hres : ∀ (b : Nat) (sp : Nat → Bool) (hd : Bool), DataW.TrodAll enc P W' b sp hd f.resultTypes.toList (v.resultList f.resultTypes.size) (s.fn H (ds ++ [])).results [])
 (hargs : (s.fn H (ds ++ [])).args = ds) (hvars : ∀ sp : Nat → Bool, DataW.TrodVars enc P W' sp s.vars (s.fn H (ds ++ [])).vars []) (hb : Below W.heap.size W W') : s.post enc P f apart fresh handsOn false W args v W' := by
 refine ⟨ds, [], before, [], before, [], hW, hres _ _ _, ?_, hvars _, World.keptBut_mono (fun p hp => ⟨hp, .inr (.inl hp)⟩) (hb.frame (· ∈ before)), fun h => Bool.noConfusion h⟩
 rw [hargs]
 exact z0c hl hb ht (fun p hp => hW.lt p hp) hA

def H05 (w : World) : View := fun b => match w.heap[b]? with | some (.cells cs _ _) => some cs | _ => none
theorem e0l (w : World) : (H05 w).In w := by
 intro i cs hi
 unfold H05 at hi
 split at hi
 · rename_i cs' T fr hw
   simp at hi; subst hi
   exact ⟨T, fr, hw⟩
 · simp at hi
theorem x0g {w : World} {p : Addr} {v : Value} (h : w.cell? p = some v) : (H05 w).load (some p) = some v := by
 unfold World.cell? at h
 unfold View.load H05
 split at h
 · rename_i c T fr hw
   simp only [hw]
   split at h
   · simp at h
   · rename_i hs
     simp only [hs]
     simpa using h
 · simp at h
section
variable {H : Type} {enc : TypeId × Value → H} {P : Program} {w : World} {base : Nat} {spare : Nat → Bool} {held : Bool}
theorem G0f {α : Type} {sz : Nat} {t e : TypeId} (ht : P.underlying t = some (.slice e)) (hc : P.cellsOf e = sz) (ok : α → Prop) (E : View → List Value → α → Prop)
 (he : ∀ {fuel : Nat} {cs : List Value} {x : DataW H × List MemPlace}, DataW.trod enc P w base spare held fuel e cs = some x → ∃ z, ok z ∧ E (H05 w) cs z)
 {fuel : Nat} {cs : List Value} {x : DataW H × List MemPlace} (h : DataW.trod enc P w base spare held fuel t cs = some x) :
 ∃ (s : Sl) (zs : List α), cs = [s.v] ∧ s00 sz E (H05 w) s zs ∧ zs.length ≤ maxLen ∧ ∀ z ∈ zs, ok z := by
 rcases Go.Deep.open_slice ht h with ⟨h1, _⟩ | ⟨a, l0, c0, m, n, D, Pl, h1, _, hl, hm, hmm, _, hx⟩
 · subst h1
   exact ⟨Sl.mk none 0 0, [], rfl, s00.nil, Nat.zero_le _, by intro r hr; simp at hr⟩
 · subst h1
   have hlm : l0 ≤ m := by rw [hmm]; split <;> omega
   have key : ∀ k, k ≤ l0 → ∃ (rs : List α) (o : List Value), rs.length = k ∧ (∀ r ∈ rs, ok r) ∧ G01 sz E (H05 w) o rs ∧ (H05 w).has (some a) o := by
    intro k
    induction k with
    | zero => intro _; exact ⟨[], [], rfl, by intro r hr; simp at hr, rfl, by intro j v hj; simp at hj⟩
    | succ k ih =>
      intro hk
      obtain ⟨rs, o, hrl, hri, hcs, ho⟩ := ih (by omega)
      obtain ⟨cs', g1, g2⟩ := hx k (by omega)
      obtain ⟨r, hr, er⟩ := he g2
      rw [hc] at g1
      obtain ⟨_, hcl, hcell⟩ := World.cells?_some g1
      have hol := hcs.length
      refine ⟨rs ++ [r], o ++ cs', by simp [hrl], ?_, hcs.append (G01.one hcl er), ?_⟩
      · intro x hx
        rcases List.mem_append.1 hx with h | h
        · exact hri x h
        · simp at h; subst h; exact hr
      · intro j v hj
        by_cases hjo : j < o.length
        · rw [List.getElem?_append_left hjo] at hj
          exact ho j v hj
        · rw [List.getElem?_append_right (by omega)] at hj
          have hj3 : j - o.length < sz := by
           rcases Nat.lt_or_ge (j - o.length) cs'.length with h | h
           · omega
           · rw [List.getElem?_eq_none h] at hj; simp at hj
          have hcj := hcell (j - o.length) hj3
          rw [hj, W09] at hcj
          have e : k * sz + (j - o.length) = j := by rw [hol, hrl]; rw [hol, hrl] at hjo; omega
          rw [e] at hcj
          exact x0g hcj
   obtain ⟨rs, o, hrl, hri, hcs, ho⟩ := key l0 (Nat.le_refl _)
   exact ⟨Sl.mk (some a) l0 c0, rs, rfl, ⟨hrl.symm, hl, fun _ => rfl, o, ho, hcs⟩, by omega, hri⟩
theorem O0d {v x : Value} (h : v.cells.toList = [x]) (hv : ∃ a l c, v = .slice a l c) : v = x := by
 obtain ⟨a, l, c, rfl⟩ := hv
 simpa [Value.cells] using h
theorem W0p {t e : TypeId} {v : Value} {d : DataW H} {ps : List MemPlace} (ht : P.underlying t = some (.slice e)) (he : T0t P e) (hv : ∃ a l c, v = .slice a l c) (h : DataW.Trod enc P w base spare held t v d ps) :
 ∃ (s : Sl) (rs : List RatV), v = s.v ∧ F0f (H05 w) s rs ∧ rs.length ≤ maxLen ∧ ∀ r ∈ rs, ratI r := by
 obtain ⟨fuel, h⟩ := h
 obtain ⟨s, zs, e1, h1, h2, h3⟩ := G0f ht he.cells ratI ratC (fun g => L0n he g) h
 exact ⟨s, zs, O0d e1 hv, h1, h2, h3⟩
theorem X0p {t t2 e : TypeId} {v : Value} {d : DataW H} {ps : List MemPlace} (ht : P.underlying t = some (.slice t2)) (ht2 : P.underlying t2 = some (.slice e)) (hc : P.cellsOf t2 = 1) (he : T0t P e) (hv : ∃ a l c, v = .slice a l c)
 (h : DataW.Trod enc P w base spare held t v d ps) :
 ∃ (s : Sl) (rows : List (List RatV)), v = s.v ∧ N03 3 ratC (H05 w) s rows ∧ rows.length ≤ maxLen ∧ ∀ row ∈ rows, row.length ≤ maxLen ∧ ∀ r ∈ row, ratI r := by
 obtain ⟨fuel, h⟩ := h
 obtain ⟨s, zs, e1, h1, h2, h3⟩ := G0f (α := List RatV) ht hc (fun row => row.length ≤ maxLen ∧ ∀ r ∈ row, ratI r) (fun V x row => ∃ s : Sl, x = [s.v] ∧ s00 3 ratC V s row) (fun g => by
  obtain ⟨s, zs, e1, h1, h2, h3⟩ := G0f ht2 he.cells ratI ratC (fun g => L0n he g) g
  exact ⟨zs, ⟨h2, h3⟩, s, e1, h1⟩) h
 exact ⟨s, zs, O0d e1 hv, h1, h2, h3⟩
end
end Go.Proofs.YtefkpimcffofaaaGreat
namespace Go.Proofs.YtefkpimcffofaaaGreat
open Go Go.Vc Go.Proofs
open Go.Proofs.Tryz (prog)
open Go.IntKind (i64 u64 u32 u8)
theorem d0j (x : Nat) : C09 prog c0c #[.float .f64 x] (.int .u64 (x : Int)) := fun w => by kernel_rfl
theorem A0c (x : Nat) : C09 prog y09 #[.int .u64 (x : Int)] (.float .f64 x) := fun w => by kernel_rfl
theorem S0a {V : View} {x : Nat} (h : x < 2 ^ 64) : a00 prog P0j #[.float .f64 x] V fun v _ => v = .bool (decide (¬ okW x)) := by
 refine q0i x V _ ?_
 by_cases c : okW x
 · rw [G07 c c, decide_eq_false (fun z => z c)]
   have : compare (key x) (key x) = .eq := by
    show compareOfLessAndEq _ _ = _
    unfold compareOfLessAndEq; rw [if_neg (by omega), if_pos rfl]
   rw [this]; rfl
 · have : infR < x % 2 ^ 63 := by unfold okW at c; omega
   rw [C0b this, decide_eq_true c]; rfl
theorem k0d : okW 9218868437227405311 ∧ key 9218868437227405311 = (infR : Int) - 1 := by decide
theorem a0s {x : Nat} (h : okW x) : -(infR : Int) ≤ key x ∧ key x ≤ (infR : Int) := by
 obtain ⟨h1, h2⟩ := h
 unfold key infR at *; split <;> omega
theorem M0n {V : View} {x : Nat} (h : x < 2 ^ 64) : a00 prog J09 #[.float .f64 x, .int .i64 1] V fun v _ => v = .bool (decide (okW x ∧ key x = (infR : Int))) := by
 refine c09 x 1 V _ ⟨fun h => absurd h (by simp), fun _ => ⟨fun h => absurd h (by simp), fun _ => ?_⟩⟩
 by_cases c : okW x
 · have := a0s c
   rw [F0k c k0d.1, k0d.2]
   congr 2; apply propext; constructor
   · intro z; exact ⟨c, by omega⟩
   · intro z; omega
 · have : infR < x % 2 ^ 63 := by unfold okW at c; omega
   rw [C0b this, decide_eq_false (fun z => c z.1)]; rfl
theorem E0h {V : View} {x : Nat} (h : x < 2 ^ 64) : a00 prog J09 #[.float .f64 x, .int .i64 (-1)] V fun v _ => v = .bool (decide (okW x ∧ key x = -(infR : Int))) := by
 refine c09 x (-1) V _ ⟨fun h => absurd h (by simp), fun _ => ⟨fun _ => ?_, fun h => absurd h (by simp)⟩⟩
 by_cases c : okW x
 · have := a0s c
   obtain ⟨n1, n2⟩ := b0a c
   rw [F0k n1 k0d.1, k0d.2, n2]
   congr 2; apply propext; constructor
   · intro z; exact ⟨c, by omega⟩
   · intro z; omega
 · have h2 : infR < x % 2 ^ 63 := by unfold okW at c; omega
   have h3 : infR < (Op.negFloat .f64 x) % 2 ^ 63 := by rw [m09 h]; split <;> omega
   rw [C0b h3, decide_eq_false (fun z => c z.1)]; rfl
theorem b0s {V : View} : a00 prog Z0g #[.int .i64 1] V fun v _ => v = .float .f64 infR :=
 Z0e 1 V _ ⟨fun _ => ⟨infR, A0c infR, rfl⟩, fun h => absurd h (by simp)⟩
theorem U0t {V : View} : a00 prog Z0g #[.int .i64 (-1)] V fun v _ => v = .float .f64 18442240474082181120 :=
 Z0e (-1) V _ ⟨fun h => absurd h (by simp), fun _ => ⟨18442240474082181120, A0c 18442240474082181120, rfl⟩⟩
theorem c0s {x : Nat} (hx : x < 18446744073709551616) : (BitVec.ofInt 64 (x : Int)).toNat = x := by
 rw [BitVec.toNat_ofInt]; omega
theorem l0d {x : Nat} (hx : x < 2 ^ 64) : (BitVec.ofInt u64.bits (x : Int)).toNat = x := c0s (by omega)
theorem s09 {y : Nat} (hy : y < 2 ^ 64) : u64.wrap (y : Int) = (y : Int) := u64w (by omega) (by omega)
theorem d0s {x m : Nat} (hx : x < 2 ^ 64) (hm : m < 2 ^ 64) : u64.wrap (BitVec.toNat ((BitVec.ofInt u64.bits (x : Int)) &&& ~~~(BitVec.ofInt u64.bits (m : Int)))) = ((x &&& (2 ^ 64 - 1 - m) : Nat) : Int) := by
 have h2 : x &&& (2 ^ 64 - 1 - m) ≤ x := Nat.and_le_left
 have e3 : (~~~(BitVec.ofInt u64.bits (m : Int))).toNat = 2 ^ 64 - 1 - m := by
  rw [BitVec.toNat_not, l0d hm]; rfl
 rw [BitVec.toNat_and, l0d hx, e3]
 exact s09 (by omega)
theorem e0s {x m : Nat} (hx : x < 2 ^ 64) (hm : m < 2 ^ 64) : u64.wrap (BitVec.toNat ((BitVec.ofInt u64.bits (x : Int)) ||| (BitVec.ofInt u64.bits (m : Int)))) = ((x ||| m : Nat) : Int) := by
 rw [BitVec.toNat_or, l0d hx, l0d hm]
 exact s09 (Nat.or_lt_two_pow hx hm)
theorem N0n {V : View} {x : Nat} (h : x < 2 ^ 64) : a00 prog Y0o #[.float .f64 x] V fun v _ => v = .float .f64 (x % 2 ^ 63) := by
 refine n0m x V _ ⟨x, d0j x, x % 2 ^ 63, ?_, rfl⟩
 have e := d0s (x := x) (m := 2 ^ 63) h (by omega)
 have e2 : x &&& (2 ^ 64 - 1 - 2 ^ 63) = x % 2 ^ 63 := Nat.and_two_pow_sub_one_eq_mod x 63
 rw [e2] at e
 have e3 : (((2 ^ 63 : Nat) : Int)) = 9223372036854775808 := by decide
 rw [e3] at e
 rw [e]; exact A0c _
theorem f0l {V : View} {x : Nat} (h : okW x) : a00 prog J09 #[.float .f64 x, .int .i64 0] V fun v _ => v = .bool (decide (x % 2 ^ 63 = infR)) := by
 refine c09 x 0 V _ ⟨fun _ => (N0n h.1).mono fun v V1 _ hv => ⟨_, hv, ?_⟩, fun h => absurd h (by simp)⟩
 have h2 := h.2
 have ok : okW (x % 2 ^ 63) := ⟨by omega, by omega⟩
 rw [F0k ok k0d.1, k0d.2]
 have : key (x % 2 ^ 63) = ((x % 2 ^ 63 : Nat) : Int) := by unfold key; rw [if_pos (by omega)]
 rw [this]
 congr 2; apply propext; omega
theorem g0l {w : Nat} (h : w < 2 ^ 63) : key w = (w : Int) := by unfold key; rw [if_pos h]
theorem f0s {x : Nat} (hx : x < 2 ^ 63) : x &&& (2 ^ 64 - 1 - 9218868437227405312) = x % 2 ^ 52 := by
 have hM : 2 ^ 64 - 1 - 9218868437227405312 = 2 ^ 52 * 2 ^ 11 + (2 ^ 52 - 1) := by decide
 rw [hM]
 have h1 : (x &&& (2 ^ 52 * 2 ^ 11 + (2 ^ 52 - 1))) % 2 ^ 52 = x % 2 ^ 52 := by
  rw [Nat.and_mod_two_pow, Nat.mul_add_mod, Nat.mod_eq_of_lt (by omega : 2 ^ 52 - 1 < 2 ^ 52), Nat.and_two_pow_sub_one_eq_mod, Nat.mod_mod]
 have h2 : (x &&& (2 ^ 52 * 2 ^ 11 + (2 ^ 52 - 1))) / 2 ^ 52 = 0 := by
  rw [Nat.and_div_two_pow]
  have e : (2 ^ 52 * 2 ^ 11 + (2 ^ 52 - 1)) / 2 ^ 52 = 2 ^ 11 := by decide
  rw [e]
  apply Nat.eq_of_testBit_eq
  intro i
  rw [Nat.testBit_and, Nat.testBit_two_pow, Nat.zero_testBit]
  by_cases c : 11 = i
  · subst c
    rw [Nat.testBit_lt_two_pow (by omega : x / 2 ^ 52 < 2 ^ 11)]; rfl
  · rw [decide_eq_false c, Bool.and_false]
 omega
theorem g0s {x m e k : Nat} (hw : x = e * 2 ^ 52 + m) (he : e ≤ 2045) (h1 : 2 ^ 52 ≤ m) (h2 : m < 2 ^ 53) (hk : k ≤ 2045) :
 u64.wrap (BitVec.toNat ((BitVec.ofInt u64.bits (u64.wrap (BitVec.toNat ((BitVec.ofInt u64.bits (x : Int)) &&& ~~~(BitVec.ofInt u64.bits 9218868437227405312))))) ||| (BitVec.ofInt u64.bits (u64.wrap ((u64.wrap ((k + 1 : Nat) : Int)) * 2 ^ (min (Int.toNat 52) (u64.bits))))))) = ((k * 2 ^ 52 + m : Nat) : Int) := by
 have hx : x < 2 ^ 63 := by omega
 have a := d0s (x := x) (m := 9218868437227405312) (by omega) (by omega)
 rw [f0s hx] at a
 have am : x % 2 ^ 52 = m - 2 ^ 52 := by omega
 rw [am] at a
 have a9 : (((9218868437227405312 : Nat)) : Int) = 9218868437227405312 := rfl
 rw [a9] at a
 rw [a]
 have hp : (2 : Int) ^ (min (Int.toNat 52) u64.bits) = ((2 ^ 52 : Nat) : Int) := by decide
 have e3 : u64.wrap (u64.wrap ((k + 1 : Nat) : Int) * ((2 ^ 52 : Nat) : Int)) = (((k + 1) * 2 ^ 52 : Nat) : Int) := by
  rw [s09 (y := k + 1) (by omega), ← Int.natCast_mul, s09 (by omega)]
 rw [hp, e3, e0s (by omega) (by omega)]
 congr 1
 have hor := Nat.two_pow_add_eq_or_of_lt (i := 52) (b := m - 2 ^ 52) (by omega) (k + 1)
 rw [Nat.or_comm, Nat.mul_comm (k + 1), ← hor]; omega
theorem e0x {n m e t k b c d : Nat} (hv : m * 2 ^ e = n * 2 ^ c) (h1 : k + d = e + t) (h2 : 52 + c = b + d) : 2 ^ 52 * m * 2 ^ k = n * 2 ^ t * 2 ^ b := by
 refine Nat.eq_of_mul_eq_mul_right (Nat.pow_pos (by omega) : 0 < 2 ^ d) ?_
 have e1 : 2 ^ 52 * m * 2 ^ k * 2 ^ d = 2 ^ 52 * (m * 2 ^ e) * 2 ^ t := by
  rw [Nat.mul_assoc (2 ^ 52 * m), ← Nat.pow_add, h1, Nat.pow_add]; ac_rfl
 have e2 : n * 2 ^ t * 2 ^ b * 2 ^ d = n * 2 ^ t * (2 ^ 52 * 2 ^ c) := by
  rw [Nat.mul_assoc (n * 2 ^ t), ← Nat.pow_add, ← Nat.pow_add, h2]
 rw [e1, e2, hv]; ac_rfl
theorem W0t : Ieee.double.read 4607182418800017408 = .number false (2 ^ 52) (-52) := by decide +kernel
theorem i0s : Ieee.double.read 4368491638549381120 = .number false (2 ^ 52) (-105) := by decide +kernel
theorem F0h {V : View} {n r : Nat} {s : Int} (h0 : n ≠ 0) (hn : n ≤ 2 ^ 53) (s0 : -1074 ≤ s) (s1 : s ≤ 2 ^ 40) (hr : r < infR) (h : rm r = n * 2 ^ (s + 1074).toNat) :
 a00 prog A0d #[.float .f64 (FloatKind.f64.nearest (n : Int)), .int .i64 s] V fun v _ => v = .float .f64 r := by
 obtain ⟨e, m, hw, m1, m2, hv, e0, e1⟩ := K0k h0 hn
 generalize FloatKind.f64.nearest (n : Int) = x at hw
 have hx63 : x < 2 ^ 63 := by omega
 have hmod : x % 2 ^ 63 = x := Nat.mod_eq_of_lt hx63
 have hxi : x < infR := by unfold infR; omega
 have hok : okW x := ⟨by omega, by omega⟩
 have hkey : key x = (x : Int) := g0l hx63
 have hdiv : x / 2 ^ 52 = e + 1 := by omega
 have hmd : x % 2 ^ 52 = m - 2 ^ 52 := by omega
 -- what is known of the size
 have hnl := P0w h hr h0
 have hlm : n.log2 + 52 = e - 1022 + 52 := by
  have a1 := ((q0e (n := m) (k := e) (by omega)).symm.trans (congrArg Nat.log2 hv)).trans (q0e (n := n) (k := 1074) h0)
  have a2 : m.log2 = 52 := (Nat.log2_eq_iff (by omega)).2 ⟨m1, m2⟩
  omega
 have hs : s ≤ 1023 := by omega
 refine f0c x s V _ ⟨fun h => absurd h (by simp), fun _ => ?_⟩
 refine a00.mono (e0c x s V (fun v _ => v = .float .f64 r) ⟨fun hz => ?_, fun _ => ?_⟩) (fun v V1 _ hv => ⟨r, hv, rfl⟩)
 · exfalso
   rw [G0k hok (by decide), hkey] at hz
   have : key 0 = 0 := by decide
   rw [this] at hz
   simp only [decide_eq_true_eq] at hz
   omega
 refine (f0l hok).mono fun v V1 l1 hv1 => ⟨_, hv1, fun hc => ?_, fun _ => ?_⟩
 · exfalso; simp only [decide_eq_true_eq] at hc; omega
 refine (S0a (by omega : x < 2 ^ 64)).mono fun v V2 l2 hv2 => ⟨_, hv2, fun hc => ?_, fun _ => ?_⟩
 · exfalso; simp only [decide_eq_true_eq] at hc; exact hc hok
 have hnorm : a00 prog a0e #[.float .f64 x] V2 fun v _ => v = .tuple #[.float .f64 x, .int .i64 0] := by
  refine a0d x V2 _ ((N0n (by omega : x < 2 ^ 64)).mono fun v V3 l3 hv3 => ⟨_, hv3, fun hc => ?_, fun _ => rfl⟩)
  exfalso
  rw [hmod, K0w hok (by decide), hkey] at hc
  have : key 4503599627370496 = 4503599627370496 := by decide
  rw [this] at hc
  simp only [decide_eq_true_eq] at hc
  omega
 refine hnorm.mono fun v V3 l3 hv3 => ⟨x, 0, hv3, x, d0j x, ?_⟩
 have hE : i64.wrap (i64.wrap (s + 0) + i64.wrap (i64.wrap (BitVec.toNat ((BitVec.ofInt i64.bits (i64.wrap (Int.fdiv (x : Int) (2 ^ (min (Int.toNat 52) u64.bits))))) &&& (BitVec.ofInt i64.bits 2047))) - 1023)) = s + (e : Int) - 1022 := by
  have hp : (2 : Int) ^ (min (Int.toNat 52) u64.bits) = ((2 ^ 52 : Nat) : Int) := by decide
  have hd : Int.fdiv (x : Int) ((2 ^ 52 : Nat) : Int) = ((e + 1 : Nat) : Int) := by
   rw [Int.fdiv_eq_ediv_of_nonneg _ (by omega), ← Int.natCast_ediv, hdiv]
  rw [hp, hd, i64w (n := ((e + 1 : Nat) : Int)) (by omega) (by omega), BitVec.toNat_and]
  have b1 : (BitVec.ofInt i64.bits ((e + 1 : Nat) : Int)).toNat = e + 1 := c0s (by omega)
  have b2 : (BitVec.ofInt i64.bits 2047).toNat = 2 ^ 11 - 1 := by decide
  rw [b1, b2, Nat.and_two_pow_sub_one_eq_mod, Nat.mod_eq_of_lt (by omega), i64w (n := ((e + 1 : Nat) : Int)) (by omega) (by omega), i64w (n := ((e + 1 : Nat) : Int) - 1023) (by omega) (by omega), i64w (n := s + 0) (by omega) (by omega), i64w (by omega) (by omega)]
  omega
 rw [hE]
 refine ⟨fun hc => ?_, fun _ => ⟨fun hc => ?_, fun _ => ⟨fun hc => ?_, fun hc => ?_⟩⟩⟩
 · exfalso; simp only [decide_eq_true_eq] at hc; omega
 · exfalso; simp only [decide_eq_true_eq] at hc; omega
 · simp only [decide_eq_true_eq] at hc
   obtain ⟨k, hk⟩ : ∃ k : Nat, (k : Int) = s + e + 53 := ⟨(s + e + 53).toNat, by omega⟩
   have hk5 : k ≤ 2045 := by omega
   have w1 : i64.wrap (i64.wrap (s + (e : Int) - 1022 + 53) + 1023) = ((k + 1 : Nat) : Int) := by
    rw [i64w (n := s + (e : Int) - 1022 + 53) (by omega) (by omega), i64w (by omega) (by omega)]; omega
   rw [w1, g0s hw (by omega) m1 m2 hk5]
   refine ⟨_, A0c _, r, J0k i0s (I0k hk5 m1 m2) hr (by omega) (by omega) (a := k) (b := 105) (by omega) ?_, rfl⟩
   rw [h]
   exact e0x (d := 1021) hv (by omega) (by omega)
 · simp only [decide_eq_false_iff_not] at hc
   obtain ⟨k, hk⟩ : ∃ k : Nat, (k : Int) = s + e := ⟨(s + e).toNat, by omega⟩
   have hk5 : k ≤ 2045 := by omega
   have w1 : i64.wrap (s + (e : Int) - 1022 + 1023) = ((k + 1 : Nat) : Int) := by
    rw [i64w (by omega) (by omega)]; omega
   rw [w1, g0s hw (by omega) m1 m2 hk5]
   refine ⟨_, A0c _, r, J0k W0t (I0k hk5 m1 m2) hr (by omega) (by omega) (a := k) (b := 52) (by omega) ?_, rfl⟩
   rw [h]
   exact e0x (d := 1074) hv (by omega) (by omega)
theorem Y0p {V : View} {s : Int} : a00 prog A0d #[.float .f64 (FloatKind.f64.nearest 0), .int .i64 s] V fun v _ => v = .float .f64 0 := by
 rw [d0e]
 refine f0c 0 s V _ ⟨fun h => absurd h (by simp), fun _ => ?_⟩
 refine a00.mono (e0c 0 s V (fun v _ => v = .float .f64 0) ⟨fun _ => rfl, fun hz => ?_⟩) (fun v V1 _ hv => ⟨0, hv, rfl⟩)
 exfalso; revert hz; decide

theorem H0f {V : View} {x : Nat} (h : x < 2 ^ 64) : a00 prog Y0j #[.float .f64 x] V fun v _ => v = .bool (decide (x % 2 ^ 63 < infR)) := by
 refine o0i x V _ ((S0a h).mono fun v V1 _ hv => ⟨_, hv, fun hc => ?_, fun hc => ?_⟩)
 · have hok : okW x := by simpa using hc
   refine (f0l hok).mono fun v V2 _ hv => ⟨_, hv, ?_⟩
   have := hok.2
   by_cases c : x % 2 ^ 63 = infR
   · rw [decide_eq_true c, decide_eq_false (by omega)]; rfl
   · rw [decide_eq_false c, decide_eq_true (by omega)]; rfl
 · have hok : ¬ okW x := by simpa using hc
   have : ¬ x % 2 ^ 63 < infR := fun c => hok ⟨h, by omega⟩
   rw [decide_eq_false this]
def fld (x : Nat) : Nat := x / 2 ^ 52 % 2048
def mant (x : Nat) : Nat := if fld x = 0 then x % 2 ^ 52 else x % 2 ^ 52 + 2 ^ 52
def up1 (x : Nat) : Nat := if fld x = 0 then 1 else fld x
def sgI (x : Nat) (n : Nat) : Int := if 2 ^ 63 ≤ x then -(n : Int) else n
theorem e0j (x : Nat) : mant x < 2 ^ 53 := by unfold mant; split <;> omega
theorem S0v (x : Nat) : rm (x % 2 ^ 63) = mant x * 2 ^ (up1 x - 1) := by
 have hf : x % 2 ^ 63 / 2 ^ 52 = fld x := by unfold fld; omega
 have hm : x % 2 ^ 63 % 2 ^ 52 = x % 2 ^ 52 := by omega
 unfold rm mant up1
 rw [hf, hm]
 by_cases c : fld x = 0
 · rw [if_pos (by omega), if_pos c, if_pos c]; simp; omega
 · rw [if_neg (by omega), if_neg c, if_neg c, Nat.add_comm]
theorem f0x {x : Nat} (h : x < 2 ^ 64) : kz (key x) = sgI x (rm (x % 2 ^ 63)) := by
 unfold kz sgI
 rw [E0i h]
 by_cases c : 2 ^ 63 ≤ x
 · rw [if_pos c]
   by_cases z : key x < 0
   · rw [if_pos z]
   · rw [if_neg z]
     have : x % 2 ^ 63 = 0 := by unfold key at z; split at z <;> omega
     rw [this, f0d]; rfl
 · rw [if_neg c, if_neg (by unfold key; rw [if_pos (by omega)]; omega)]
theorem O0n {x m : Nat} (hx : x < 2 ^ 64) (hm : m < 2 ^ 64) : u64.wrap (BitVec.toNat ((BitVec.ofInt u64.bits (x : Int)) &&& (BitVec.ofInt u64.bits (m : Int)))) = ((x &&& m : Nat) : Int) := by
 have h2 : x &&& m ≤ x := Nat.and_le_left
 rw [BitVec.toNat_and, l0d hx, l0d hm]
 exact s09 (by omega)
theorem P0n {x k : Nat} : Int.fdiv (x : Int) ((2 ^ k : Nat) : Int) = ((x / 2 ^ k : Nat) : Int) := by
 rw [Int.fdiv_eq_ediv_of_nonneg _ (Int.natCast_nonneg _), ← Int.natCast_ediv]
theorem I0f (x : Nat) : 1 ≤ up1 x ∧ up1 x ≤ 2047 := by
 have : fld x < 2048 := by unfold fld; omega
 unfold up1
 by_cases c : fld x = 0
 · rw [if_pos c]; omega
 · rw [if_neg c]; omega
theorem F0u (x : Nat) : (if (1 : Int) > (fld x : Int) then (1 : Int) else (fld x : Int)) = (up1 x : Int) := by
 unfold up1
 by_cases c : fld x = 0
 · rw [if_pos (by omega), if_pos c]; rfl
 · rw [if_neg (by omega), if_neg c]
def fq (x : Nat) : Rat := (kz (key x) : Rat) / ((2 ^ 1074 : Nat) : Rat)
theorem G0h {V : View} {x : Nat} (h : finW x) : a00 prog e0m #[.float .f64 x] V fun v V' => ∃ r : WhV, v = .tuple #[r.val, .int .i64 ((up1 x : Int) - 1075)] ∧ N04 V' r (sgI x (mant x)) := by
 have h64 := h.1
 have hfl : fld x < 2048 := by unfold fld; omega
 have hp52 : (2 : Int) ^ (min (Int.toNat 52) u64.bits) = ((2 ^ 52 : Nat) : Int) := by decide
 have hp63 : (2 : Int) ^ (min (Int.toNat 63) u64.bits) = ((2 ^ 63 : Nat) : Int) := by decide
 have e1 : i64.wrap (u64.wrap (BitVec.toNat ((BitVec.ofInt u64.bits (Int.fdiv (x : Int) (2 ^ (min (Int.toNat 52) (u64.bits))))) &&& (BitVec.ofInt u64.bits 2047)))) = (fld x : Int) := by
  have := O0n (x := x / 2 ^ 52) (m := 2047) (by omega) (by omega)
  have e : x / 2 ^ 52 &&& 2047 = fld x := Nat.and_two_pow_sub_one_eq_mod (x / 2 ^ 52) 11
  rw [e] at this
  rw [hp52, P0n]
  rw [show (((2047 : Nat)) : Int) = 2047 from rfl] at this
  rw [this, i64w (by omega) (by omega)]
 have e2 : u64.wrap (BitVec.toNat ((BitVec.ofInt u64.bits (x : Int)) &&& (BitVec.ofInt u64.bits 4503599627370495))) = ((x % 2 ^ 52 : Nat) : Int) := by
  have := O0n (x := x) (m := 4503599627370495) (by omega) (by omega)
  have e : x &&& 4503599627370495 = x % 2 ^ 52 := Nat.and_two_pow_sub_one_eq_mod x 52
  rw [e] at this
  exact this
 have e3 : ((Int.fdiv (x : Int) (2 ^ (min (Int.toNat 63) (u64.bits))) : Int) == 1) = decide (2 ^ 63 ≤ x) := by
  rw [hp63, P0n]
  by_cases c : 2 ^ 63 ≤ x
  · have : x / 2 ^ 63 = 1 := by omega
    rw [this, decide_eq_true c]; rfl
  · have : x / 2 ^ 63 = 0 := by omega
    rw [this, decide_eq_false c]; rfl
 refine f0k x V _ ⟨x, d0j x, ?_⟩
 rw [e1, e2, e3]
 have hw : ∀ {V1 : View} {s : Sl} {n : Nat}, F01 V1 s n → n = mant x → a00 prog Z08 #[.bool (decide (2 ^ 63 ≤ x)), s.v] V1 fun v V' => ∃ r : WhV, v = r.val ∧ N04 V' r (sgI x (mant x)) := by
  intro V1 s n hs hn
  refine (W02 (decide (2 ^ 63 ≤ x)) hs).mono fun v V2 _ ⟨r, hv, hr⟩ => ⟨r, hv, ?_⟩
  subst hn
  unfold sgI
  by_cases c : 2 ^ 63 ≤ x
  · rw [decide_eq_true c] at hr; rw [if_pos c]; simpa using hr
  · rw [decide_eq_false c] at hr; rw [if_neg c]; simpa using hr
 refine ⟨fun hc => ?_, fun hc => ?_⟩
 · simp only [decide_eq_true_eq] at hc
   have e4 : u64.wrap (BitVec.toNat ((BitVec.ofInt u64.bits ((x % 2 ^ 52 : Nat) : Int)) ||| (BitVec.ofInt u64.bits 4503599627370496))) = ((mant x : Nat) : Int) := by
    have := e0s (x := x % 2 ^ 52) (m := 4503599627370496) (by omega) (by omega)
    have hor := Nat.two_pow_add_eq_or_of_lt (i := 52) (b := x % 2 ^ 52) (by omega) 1
    have e : x % 2 ^ 52 ||| 4503599627370496 = mant x := by
     rw [Nat.or_comm]
     have h1 : 2 ^ 52 * 1 = 4503599627370496 := by decide
     rw [h1] at hor
     rw [← hor]; unfold mant; rw [if_neg (by omega)]; omega
    rw [e] at this
    exact this
   rw [e4]
   have := e0j x
   refine (G05 (n := ((mant x : Nat) : Int)) (by omega) (by omega)).mono fun v V1 _ ⟨s, hv, hs⟩ => ⟨s, hv, ?_⟩
   refine (hw hs (by omega)).mono fun v V2 _ ⟨r, hv, hr⟩ => ⟨r, hv, r, ?_, hr⟩
   have hu := I0f x
   rw [F0u x, i64w (by omega) (by omega)]
 · simp only [decide_eq_false_iff_not] at hc
   have hf0 : fld x = 0 := by omega
   have em : x % 2 ^ 52 = mant x := by unfold mant; rw [if_pos hf0]
   rw [em]
   have := e0j x
   refine (G05 (n := ((mant x : Nat) : Int)) (by omega) (by omega)).mono fun v V1 _ ⟨s, hv, hs⟩ => ⟨s, hv, ?_⟩
   refine (hw hs (by omega)).mono fun v V2 _ ⟨r, hv, hr⟩ => ⟨r, hv, r, ?_, hr⟩
   have hu := I0f x
   rw [F0u x, i64w (by omega) (by omega)]
theorem q07 (k : Nat) : bl (2 ^ k) ≤ k + 1 := L04 (by rw [Nat.pow_succ]; have : 0 < 2 ^ k := Nat.pow_pos (by omega); omega)
theorem T0v (x k : Nat) : bl (mant x * 2 ^ k) ≤ 54 + k := by
 have h1 := G0d (mant x) (2 ^ k)
 have h2 : bl (mant x) ≤ 53 := L04 (e0j x)
 have h3 := q07 k
 omega
theorem j0s (x a b : Nat) : sgI x a * (b : Int) = sgI x (a * b) := by
 unfold sgI; split
 · rw [Int.neg_mul, Int.natCast_mul]
 · rw [Int.natCast_mul]
theorem S0m (x a : Nat) : (sgI x a).natAbs = a := by unfold sgI; split <;> omega
theorem k0s : (2 ^ 1074 : Nat) ≠ 0 := by
 exact Nat.pos_iff_ne_zero.1 (Nat.pow_pos (a := 2) (n := 1074) (by omega))
theorem l0s {x k : Nat} {n : Nat} (h : x < 2 ^ 64) (hn : (n : Int) = (up1 x : Int) - 1075 + k) : fq x = (sgI x (mant x * 2 ^ n) : Rat) / ((2 ^ k : Nat) : Rat) := by
 have hk : (2 ^ k : Nat) ≠ 0 := by
  have : 0 < 2 ^ k := Nat.pow_pos (by omega)
  omega
 unfold fq
 rw [m02 k0s hk, f0x h, S0v, j0s, j0s]
 have := I0f x
 have e : up1 x - 1 + k = n + 1074 := by omega
 rw [Nat.mul_assoc, Nat.mul_assoc, ← Nat.pow_add 2 (up1 x - 1) k, ← Nat.pow_add 2 n 1074, e]
theorem G0x {x : Nat} {z : Rat} {k n j m : Nat} {y : Nat} (h : x < 2 ^ 64) (hy : y < 2 ^ 64) (hn : (n : Int) = (up1 x : Int) - 1075 + k) (hm : (m : Int) = (up1 y : Int) - 1075 + k) : Rep ⟨fq x, fq y⟩ (sgI x (mant x * 2 ^ n)) (sgI y (mant y * 2 ^ m)) (2 ^ k) :=
 ⟨by have : 0 < 2 ^ k := Nat.pow_pos (by omega)
     omega, l0s h hn, l0s hy hm⟩
theorem H0h {V : View} {b : Nat} (hb : V b = some #[.int .u32 1]) : F01 V ⟨some ⟨b, 0, none⟩, 1, 1⟩ 1 := by
 have : dig 1 = [1] := by rw [x05 (by omega)]; simp [s04]
 unfold F01; rw [this]
 exact N02.of_block (by rw [hb]; rfl) rfl (Nat.le_refl _) (by intro d hd; simp at hd; omega)
theorem G0u : wn 1 ≤ 2 ^ 43 := wn64 (by omega)
theorem i0l {V : View} {c : CxV} (h1 : finW c.re) (h2 : finW c.im) :
 a00 prog i0i #[.complex .f64 c.re c.im] V fun v V' => ∃ r : NumV, v = .tuple #[r.val, .int .i64 0] ∧ n02 V' r ⟨fq c.re, fq c.im⟩ := by
 have f1 : decide (c.re % 2 ^ 63 < infR) = true := decide_eq_true h1.2
 have f2 : decide (c.im % 2 ^ 63 < infR) = true := decide_eq_true h2.2
 have u1 := I0f c.re
 have u2 := I0f c.im
 refine m0g c V _ ((H0f h1.1).mono fun v V1 l1 hv => ⟨_, hv, fun hc => ?_, fun _ => ?_⟩)
 · rw [f1] at hc; simp at hc
 refine (H0f h2.1).mono fun v V2 l2 hv => ⟨_, hv, fun hc => ?_, fun _ => ?_⟩
 · rw [f2] at hc; simp at hc
 refine (G0h h1).mono fun v V3 l3 ⟨a, hv, ha⟩ => ⟨a, _, hv, ?_⟩
 refine (G0h h2).mono fun v V4 l4 ⟨b, hv, hb⟩ => ⟨b, _, hv, ?_⟩
 obtain ⟨k, hk, hk2⟩ : ∃ k : Nat, (if (i64.wrap (0 - ((up1 c.im : Int) - 1075)) : Int) > (if (i64.wrap (0 - ((up1 c.re : Int) - 1075)) : Int) > 0 then i64.wrap (0 - ((up1 c.re : Int) - 1075)) else 0) then i64.wrap (0 - ((up1 c.im : Int) - 1075)) else (if (i64.wrap (0 - ((up1 c.re : Int) - 1075)) : Int) > 0 then i64.wrap (0 - ((up1 c.re : Int) - 1075)) else 0)) = (k : Int) ∧ 1075 - (up1 c.re : Int) ≤ k ∧ 1075 - (up1 c.im : Int) ≤ k ∧ k ≤ 1074 := by
  rw [i64w (n := 0 - ((up1 c.im : Int) - 1075)) (by omega) (by omega), i64w (n := 0 - ((up1 c.re : Int) - 1075)) (by omega) (by omega)]
  by_cases g1 : 0 - ((up1 c.re : Int) - 1075) > 0
  · rw [if_pos g1]
    by_cases g2 : 0 - ((up1 c.im : Int) - 1075) > 0 - ((up1 c.re : Int) - 1075)
    · rw [if_pos g2]; exact ⟨(0 - ((up1 c.im : Int) - 1075)).toNat, by omega, by omega, by omega, by omega⟩
    · rw [if_neg g2]; exact ⟨(0 - ((up1 c.re : Int) - 1075)).toNat, by omega, by omega, by omega, by omega⟩
  · rw [if_neg g1]
    by_cases g2 : 0 - ((up1 c.im : Int) - 1075) > 0
    · rw [if_pos g2]; exact ⟨(0 - ((up1 c.im : Int) - 1075)).toNat, by omega, by omega, by omega, by omega⟩
    · rw [if_neg g2]; exact ⟨0, by omega, by omega, by omega, by omega⟩
 rw [hk]
 obtain ⟨n, hn⟩ : ∃ n : Nat, (n : Int) = (up1 c.re : Int) - 1075 + k := ⟨((up1 c.re : Int) - 1075 + k).toNat, by omega⟩
 obtain ⟨m, hm⟩ : ∃ m : Nat, (m : Int) = (up1 c.im : Int) - 1075 + k := ⟨((up1 c.im : Int) - 1075 + k).toNat, by omega⟩
 have w1 : i64.wrap ((up1 c.re : Int) - 1075 + k) = (n : Int) := by rw [i64w (by omega) (by omega), hn]
 have w2 : i64.wrap ((up1 c.im : Int) - 1075 + k) = (m : Int) := by rw [i64w (by omega) (by omega), hm]
 rw [w1, w2]
 have ma := ha.2
 have mb := hb.2
 rw [S0m] at ma mb
 have wa : ∀ x, wn (mant x) ≤ 2 ^ 43 := fun x => wn64 (by have := e0j x; omega)
 have wb : ∀ x j, j ≤ 4000 → wn (mant x * 2 ^ j) ≤ 2 ^ 43 := fun x j hj => n0f (by have := T0v x j; omega)
 have neg : ∀ (y : Nat) (r : WhV), N04 V4 r (sgI y (mant y)) → mant y ≠ 0 → r.neg = decide (2 ^ 63 ≤ y) := by
  intro y r hr h0
  rw [hr.1]
  unfold sgI
  by_cases g : 2 ^ 63 ≤ y
  · rw [if_pos g, decide_eq_true g, decide_eq_true (by omega)]
  · rw [if_neg g, decide_eq_false g, decide_eq_false (by omega)]
 have whole : ∀ {W : View} {s : Sl} (y : Nat) (r : WhV) (j : Nat), N04 V4 r (sgI y (mant y)) → F01 W s (mant y * 2 ^ j) → a00 prog Z08 #[.bool r.neg, s.v] W fun v V' => ∃ q : WhV, v = q.val ∧ N04 V' q (sgI y (mant y * 2 ^ j)) := by
  intro W s y r j hr hs
  refine (W02 r.neg hs).mono fun v V' _ ⟨q, hv, hq⟩ => ⟨q, hv, ?_⟩
  by_cases h0 : mant y = 0
  · rw [h0, Nat.zero_mul] at hq ⊢
    have e : (if r.neg = true then -((0 : Nat) : Int) else ((0 : Nat) : Int)) = 0 := by split <;> rfl
    rw [e] at hq
    have e2 : sgI y 0 = 0 := by unfold sgI; split <;> rfl
    rw [e2]; exact hq
  · rw [neg y r hr h0] at hq
    unfold sgI
    by_cases g : 2 ^ 63 ≤ y
    · rw [if_pos g]; rw [decide_eq_true g] at hq; simpa using hq
    · rw [if_neg g]; rw [decide_eq_false g] at hq; simpa using hq
 have ha4 := ha.le l4
 have wa44 : ∀ x, wn (mant x) ≤ 2 ^ 44 := fun x => Nat.le_trans (wa x) (by decide)
 refine (X03 (ma.le l4) (wa44 c.re) (by omega)).mono fun v V5 l5 ⟨s, hv, hs⟩ => ⟨s, hv, ?_⟩
 refine (whole c.re a n ha4 hs).mono fun v V6 l6 ⟨p, hv, hp⟩ => ⟨p, hv, ?_⟩
 refine (X03 (mb.le (View.le_trans l5 l6)) (wa44 c.im) (by omega)).mono fun v V7 l7 ⟨s', hv, hs'⟩ => ⟨s', hv, ?_⟩
 refine (whole c.im b m hb hs').mono fun v V8 l8 ⟨q, hv, hq⟩ => ⟨q, hv, fun b1 V9 l9 hf hb1 => ?_⟩
 have one : F01 V9 ⟨some ⟨b1, 0, none⟩, 1, 1⟩ 1 := H0h hb1
 refine (X03 one (Nat.le_trans G0u (by decide)) (by omega : k ≤ 2 ^ 44)).mono fun v V10 l10 ⟨s2, hv, hs2⟩ => ⟨s2, hv, ?_⟩
 rw [Nat.one_mul] at hs2
 have R := G0x (z := 0) (j := 0) h1.1 h2.1 hn hm
 refine (Q03 (hp.le (View.le_trans l7 (View.le_trans l8 (View.le_trans l9 l10)))) (hq.le (View.le_trans l9 l10)) hs2 R (by rw [S0m]; exact wb _ _ (by omega)) (by rw [S0m]; exact wb _ _ (by omega)) (n0f (by have := q07 k; omega))).mono fun v V11 l11 ⟨r, hv, hr⟩ => ⟨r, hv, r, rfl, hr⟩

theorem L0s {z : Cq} {A B : Int} {D : Nat} (h : Rep z A B D) : Rep ⟨z.re, 0⟩ A 0 D := ⟨h.pos, h.re, by simp [Rat.div_def]⟩
theorem M0s {z : Cq} {A B : Int} {D : Nat} (h : Rep z A B D) : Rep ⟨z.im, 0⟩ B 0 D := ⟨h.pos, h.im, by simp [Rat.div_def]⟩
theorem H0u (z : Cq) : (⟨z.re, 0⟩ : Cq).sz ≤ z.sz + 1 :=
 (L0s z.canon.rep).sz (by have := z.szA; omega) (by rw [Int.natAbs_zero, U09]; omega) (by have := z.szD; omega)
theorem I0u (z : Cq) : (⟨z.im, 0⟩ : Cq).sz ≤ z.sz + 1 :=
 (M0s z.canon.rep).sz (by have := z.szB; omega) (by rw [Int.natAbs_zero, U09]; omega) (by have := z.szD; omega)
theorem G0b {V : View} {x : NumV} {z : Cq} (h : n02 V x z) (hz : z.sz ≤ 2 ^ 40) : a00 prog d0t #[x.val] V fun v V' => ∃ r : NumV, v = r.val ∧ n02 V' r ⟨z.re, 0⟩ := by
 have zA := Cq.wA hz; have zB := Cq.wB hz; have zD := Cq.wD hz
 refine Z0q x V _ ((T01 h).mono fun v V1 l1 ⟨d, hv, hd⟩ => ⟨d, hv, ?_⟩)
 exact (Q03 (h.re.le l1) (N04.zero V1) hd (L0s z.canon.rep) (by omega) (by rw [Int.natAbs_zero, k09]; omega) (by omega)).mono fun v V2 _ ⟨r, hv, hr⟩ => ⟨r, hv, r, rfl, hr⟩
theorem H0b {V : View} {x : NumV} {z : Cq} (h : n02 V x z) (hz : z.sz ≤ 2 ^ 40) : a00 prog e0t #[x.val] V fun v V' => ∃ r : NumV, v = r.val ∧ n02 V' r ⟨z.im, 0⟩ := by
 have zA := Cq.wA hz; have zB := Cq.wB hz; have zD := Cq.wD hz
 refine a0r x V _ ((T01 h).mono fun v V1 l1 ⟨d, hv, hd⟩ => ⟨d, hv, ?_⟩)
 exact (Q03 (h.im.le l1) (N04.zero V1) hd (M0s z.canon.rep) (by omega) (by rw [Int.natAbs_zero, k09]; omega) (by omega)).mono fun v V2 _ ⟨r, hv, hr⟩ => ⟨r, hv, r, rfl, hr⟩
theorem J0u {z : Cq} : z.A = 0 ↔ z.re = 0 := by
 have h := z.canon.rep
 have hD := k04 h.pos
 rw [h.re]
 constructor
 · intro e; rw [e]; simp [Rat.div_def]
 · intro e
   have : (z.A : Rat) = 0 := by
    have : (z.A : Rat) = (z.A : Rat) / (z.D : Rat) * (z.D : Rat) := by rw [Rat.div_mul_cancel hD]
    rw [this, e]; simp
   exact_mod_cast this
theorem B_zero {z : Cq} : z.B = 0 ↔ z.im = 0 := by
 have h := z.canon.rep
 have hD := k04 h.pos
 rw [h.im]
 constructor
 · intro e; rw [e]; simp [Rat.div_def]
 · intro e
   have : (z.B : Rat) = 0 := by
    have : (z.B : Rat) = (z.B : Rat) / (z.D : Rat) * (z.D : Rat) := by rw [Rat.div_mul_cancel hD]
    rw [this, e]; simp
   exact_mod_cast this
theorem m0b {V : View} {x : NumV} {z : Cq} (h : n02 V x z) (hz : z.sz ≤ 2 ^ 40) : a00 prog P0e #[x.val] V fun v _ => v = .bool (decide (z ≠ Cq.zero)) := by
 have zA := Cq.wA hz; have zB := Cq.wB hz
 refine g0k x V _ ?_
 have a1 := h.re.2.len; have a2 := h.im.2.len
 have b1 := h.re.2.len_zero; have b2 := h.im.2.len_zero
 have c1 : x.re.mag.len ≤ 2 ^ 50 := by
  have : x.re.mag.len = wn z.A.natAbs := by rw [wn]; exact a1.symm ▸ rfl
  omega
 have c2 : x.im.mag.len ≤ 2 ^ 50 := by
  have : x.im.mag.len = wn z.B.natAbs := by rw [wn]; exact a2.symm ▸ rfl
  omega
 rw [i64w (by omega) (by omega)]
 have d1 : x.re.mag.len = 0 ↔ z.re = 0 := by rw [b1, ← J0u]; omega
 have d2 : x.im.mag.len = 0 ↔ z.im = 0 := by rw [b2, ← B_zero]; omega
 have e : (z ≠ Cq.zero) ↔ ((x.re.mag.len : Int) + (x.im.mag.len : Int) > 0) := by
  constructor
  · intro hne
    rcases Nat.eq_zero_or_pos x.re.mag.len with p | p
    · rcases Nat.eq_zero_or_pos x.im.mag.len with q | q
      · exact absurd (Cq.ext' (d1.1 p) (d2.1 q)) hne
      · omega
    · omega
  · rintro hp rfl
    have p := d1.2 rfl; have q := d2.2 rfl
    omega
 simp only [e]
theorem Rep.div {z w : Cq} {A B a b : Int} {D d n : Nat} (hw : Rep w A B D) (ht : Rep (z * ⟨(A : Rat), -(B : Rat)⟩) a b d) (hn : (n : Int) = A * A + B * B) (h0 : n ≠ 0) : Rep (z.div w) (a * D) (b * D) (d * n) := by
 have hD := k04 hw.pos
 have hd := k04 ht.pos
 have hn0 := k04 h0
 have hN : (n : Rat) = (A : Rat) * A + B * B := by exact_mod_cast hn
 have t1 := ht.re; have t2 := ht.im
 rw [L01] at t1; rw [Q01] at t2
 dsimp only at t1 t2
 refine ⟨Nat.mul_ne_zero ht.pos h0, ?_, ?_⟩
 · show (z.re * w.re + z.im * w.im) / (w.re * w.re + w.im * w.im) = _
   rw [hw.re, hw.im, Rat.intCast_mul, Rat.natCast_mul, Rat.intCast_natCast]
   have e1 : z.re * ((A : Rat) / (D : Rat)) + z.im * ((B : Rat) / (D : Rat)) = (a : Rat) / (d : Rat) / (D : Rat) := by rw [← t1]; grind
   have e2 : (A : Rat) / (D : Rat) * ((A : Rat) / (D : Rat)) + (B : Rat) / (D : Rat) * ((B : Rat) / (D : Rat)) = (n : Rat) / ((D : Rat) * (D : Rat)) := by rw [hN]; grind
   rw [e1, e2]; grind
 · show (z.im * w.re - z.re * w.im) / (w.re * w.re + w.im * w.im) = _
   rw [hw.re, hw.im, Rat.intCast_mul, Rat.natCast_mul, Rat.intCast_natCast]
   have e1 : z.im * ((A : Rat) / (D : Rat)) - z.re * ((B : Rat) / (D : Rat)) = (b : Rat) / (d : Rat) / (D : Rat) := by rw [← t2]; grind
   have e2 : (A : Rat) / (D : Rat) * ((A : Rat) / (D : Rat)) + (B : Rat) / (D : Rat) * ((B : Rat) / (D : Rat)) = (n : Rat) / ((D : Rat) * (D : Rat)) := by rw [hN]; grind
   rw [e1, e2]; grind
theorem t0d (A B : Int) : Rep ⟨(A : Rat), -(B : Rat)⟩ A (-B) 1 := by
 refine ⟨by omega, ?_, ?_⟩
 · rw [Rat.div_def]; simp; grind
 · rw [Rat.div_def]; simp; grind
theorem P0d {V : View} {x y : NumV} {z w : Cq} (hx : n02 V x z) (hy : n02 V y w) (hz : z.sz ≤ 2 ^ 36) (hw : w.sz ≤ 2 ^ 36) :
 a00 prog O0j #[x.val, y.val] V fun v V' => ∃ (r : NumV) (e : Int), v = .tuple #[r.val, .int .i64 e] ∧ (w = Cq.zero → e = 3 ∧ n02 V' r Cq.zero) ∧ (w ≠ Cq.zero → e = 0 ∧ n02 V' r (z.div w)) := by
 have hw40 : w.sz ≤ 2 ^ 40 := by omega
 have wA := Cq.wA hw40; have wB := Cq.wB hw40; have wD := Cq.wD hw40
 have sA := w.szA; have sB := w.szB; have sD := w.szD
 refine u0p x y V _ ((m0b hy hw40).mono fun v V1 l1 hv => ⟨_, hv, fun hc => ?_, fun hc => ?_⟩)
 · have hc : w = Cq.zero := by simpa using hc
   exact ⟨_, _, rfl, fun _ => ⟨rfl, n02.zero V1⟩, fun h => absurd hc h⟩
 have hc : w ≠ Cq.zero := by simpa using hc
 replace hx := hx.le l1; replace hy := hy.le l1
 have m1 := y05 wA wA; have m2 := y05 wB wB
 refine (l04 hy.re hy.re (by omega) (by omega)).mono fun v V2 l2 ⟨r2, hv, h2⟩ => ⟨r2, hv, ?_⟩
 replace hx := hx.le l2; replace hy := hy.le l2
 refine (l04 hy.im hy.im (by omega) (by omega)).mono fun v V3 l3 ⟨r3, hv, h3⟩ => ⟨r3, hv, ?_⟩
 replace hx := hx.le l3; replace hy := hy.le l3; replace h2 := h2.le l3
 refine (E04 h2 h3 (by omega) (by omega)).mono fun v V4 l4 ⟨r4, hv, h4⟩ => ⟨r4, hv, ?_⟩
 replace hx := hx.le l4; replace hy := hy.le l4
 refine (L03 hy.im).mono fun v V5 l5 ⟨r5, hv, h5⟩ => ⟨r5, hv, fun b1 V6 l6 _ hb1 => ?_⟩
 replace hx := hx.le (View.le_trans l5 l6); replace hy := hy.le (View.le_trans l5 l6); replace h4 := h4.le (View.le_trans l5 l6); replace h5 := h5.le l6
 refine (Q03 hy.re h5 (H0h hb1) (t0d w.A w.B) (by omega) (by rw [Int.natAbs_neg]; omega) G0u).mono fun v V7 l7 ⟨r6, hv, h6⟩ => ⟨r6, hv, ?_⟩
 replace hx := hx.le l7; replace hy := hy.le l7; replace h4 := h4.le l7
 have cs : (⟨(w.A : Rat), -(w.B : Rat)⟩ : Cq).sz ≤ 2 ^ 36 + 1 := (t0d w.A w.B).sz (by omega) (by rw [Int.natAbs_neg]; omega) (by rw [n0r]; omega)
 refine (Q05 hx h6 (by omega) (by omega)).mono fun v V8 l8 ⟨r7, hv, h7⟩ => ⟨r7, hv, ?_⟩
 replace hy := hy.le l8; replace h4 := h4.le l8
 have ts := O04 z ⟨(w.A : Rat), -(w.B : Rat)⟩
 have ts40 : (z * ⟨(w.A : Rat), -(w.B : Rat)⟩).sz ≤ 2 ^ 40 := by omega
 have tA := Cq.wA ts40; have tB := Cq.wB ts40; have tD := Cq.wD ts40
 refine (T01 hy).mono fun v V9 l9 ⟨r8, hv, h8⟩ => ⟨r8, hv, ?_⟩
 replace hy := hy.le l9; replace h4 := h4.le l9; replace h7 := h7.le l9
 refine (M01 h7.re h8 (by omega) (by omega)).mono fun v V10 l10 ⟨r9, hv, h9⟩ => ⟨r9, hv, ?_⟩
 replace hy := hy.le l10; replace h4 := h4.le l10; replace h7 := h7.le l10
 refine (T01 hy).mono fun v V11 l11 ⟨r10, hv, h10⟩ => ⟨r10, hv, ?_⟩
 replace h4 := h4.le l11; replace h7 := h7.le l11; replace h9 := h9.le l11
 refine (M01 h7.im h10 (by omega) (by omega)).mono fun v V12 l12 ⟨r11, hv, h11⟩ => ⟨r11, hv, ?_⟩
 replace h4 := h4.le l12; replace h7 := h7.le l12; replace h9 := h9.le l12
 refine (T01 h7).mono fun v V13 l13 ⟨r12, hv, h12⟩ => ⟨r12, hv, ?_⟩
 replace h4 := h4.le l13; replace h9 := h9.le l13; replace h11 := h11.le l13
 have n1 := E0f m1 m2
 refine (N06 h12 h4.2 (by omega) (by omega)).mono fun v V14 l14 ⟨r13, hv, h13⟩ => ⟨r13, hv, ?_⟩
 replace h9 := h9.le l14; replace h11 := h11.le l14
 have p1 := S09 (z * ⟨(w.A : Rat), -(w.B : Rat)⟩).D (w.A * w.A + w.B * w.B).natAbs
 have q1 := y05 tA (b := (w.D : Int)) (by rw [Int.natAbs_natCast]; exact wD)
 have q2 := y05 tB (b := (w.D : Int)) (by rw [Int.natAbs_natCast]; exact wD)
 have hsq : (0 : Int) ≤ w.A * w.A + w.B * w.B := Int.add_nonneg (by rw [← Int.natAbs_mul_self]; exact Int.natCast_nonneg _) (by rw [← Int.natAbs_mul_self]; exact Int.natCast_nonneg _)
 refine (Q03 h9 h11 h13 (Rep.div w.canon.rep (z * ⟨(w.A : Rat), -(w.B : Rat)⟩).canon.rep (Int.natAbs_of_nonneg hsq) ?_) (by omega) (by omega) (by omega)).mono fun v V15 _ ⟨r, hv, hr⟩ => ⟨r, hv, r, _, rfl, fun h => absurd h hc, fun _ => ⟨rfl, hr⟩⟩
 intro h0
 have e0 : w.A * w.A + w.B * w.B = 0 := Int.natAbs_eq_zero.1 h0
 have a0 : w.A = 0 := by
  by_cases h : w.A = 0
  · exact h
  · have : 0 < w.A * w.A := by
      have : 0 < w.A.natAbs * w.A.natAbs := Nat.mul_pos (by omega) (by omega)
      rw [← Int.natAbs_mul_self]; exact_mod_cast this
    have : (0 : Int) ≤ w.B * w.B := by rw [← Int.natAbs_mul_self]; exact Int.natCast_nonneg _
    omega
 have b0 : w.B = 0 := by
  rw [a0] at e0
  have : w.B * w.B = 0 := by omega
  rcases Int.mul_eq_zero.1 this with h | h <;> exact h
 exact hc (Cq.ext' (J0u.1 a0) (B_zero.1 b0))
theorem Q0n {z w : Cq} {S : Nat} (hz : z.sz ≤ S) (hw : w.sz ≤ S) : (z.div w).sz ≤ 4 * S + 8 := by
 have sA := w.szA; have sB := w.szB; have sD := w.szD
 have cs : (⟨(w.A : Rat), -(w.B : Rat)⟩ : Cq).sz ≤ S + 1 := (t0d w.A w.B).sz (by omega) (by rw [Int.natAbs_neg]; omega) (by rw [n0r]; omega)
 have ts := O04 z ⟨(w.A : Rat), -(w.B : Rat)⟩
 have tA := (z * ⟨(w.A : Rat), -(w.B : Rat)⟩ : Cq).szA; have tB := (z * ⟨(w.A : Rat), -(w.B : Rat)⟩ : Cq).szB; have tD := (z * ⟨(w.A : Rat), -(w.B : Rat)⟩ : Cq).szD
 have hsq : (0 : Int) ≤ w.A * w.A + w.B * w.B := Int.add_nonneg (by rw [← Int.natAbs_mul_self]; exact Int.natCast_nonneg _) (by rw [← Int.natAbs_mul_self]; exact Int.natCast_nonneg _)
 by_cases h0 : (w.A * w.A + w.B * w.B).natAbs = 0
 · have : z.div w = Cq.zero := by
     have hr := w.canon.rep
     have e0 : w.A * w.A + w.B * w.B = 0 := Int.natAbs_eq_zero.1 h0
     have hn : w.norm = 0 := by
      unfold Cq.norm
      rw [hr.re, hr.im]
      have : (w.A : Rat) * w.A + w.B * w.B = 0 := by exact_mod_cast e0
      have hD := k04 hr.pos
      grind
     refine Cq.ext' ?_ ?_
     · show _ / w.norm = 0; rw [hn]; simp [Rat.div_def]
     · show _ / w.norm = 0; rw [hn]; simp [Rat.div_def]
   rw [this]; have := S04; omega
 · refine (Rep.div w.canon.rep (z * ⟨(w.A : Rat), -(w.B : Rat)⟩).canon.rep (Int.natAbs_of_nonneg hsq) h0).sz ?_ ?_ ?_
   · have := U06 (z * ⟨(w.A : Rat), -(w.B : Rat)⟩).A (w.D : Int); rw [Int.natAbs_natCast] at this; omega
   · have := U06 (z * ⟨(w.A : Rat), -(w.B : Rat)⟩).B (w.D : Int); rw [Int.natAbs_natCast] at this; omega
   · have h1 := G0d (z * ⟨(w.A : Rat), -(w.B : Rat)⟩).D (w.A * w.A + w.B * w.B).natAbs
     have h2 := m0f (a := w.A * w.A) (b := w.B * w.B) (k := 2 * S) (Nat.le_trans (U06 _ _) (by omega)) (Nat.le_trans (U06 _ _) (by omega))
     omega

def okN (z : Cq) : Prop := z.sz ≤ 2 ^ 36
def atN (V : View) (n : NumV) (z : Cq) : Prop := n02 V n z
theorem atN.le {V V' : View} (h : V.le V') {n : NumV} {z : Cq} (k : atN V n z) : atN V' n z := n02.le h k
theorem elN {V : View} {x : List Value} {z : Cq} (h : numC V x z) : ∃ n : NumV, x = n.val.cells.toList ∧ atN V n z := h
theorem g0x {V : View} {n : NumV} {z : Cq} (h : atN V n z) : numC V n.val.cells.toList z := ⟨n, rfl, h⟩
theorem lenN (n : NumV) : n.val.cells.toList.length = 5 := rfl
theorem oneN {V : View} {x : List Value} {z : Cq} (h : numC V x z) : ∀ v ∈ x, Value.oneCell' v = true := by
 obtain ⟨n, e, _⟩ := h
 subst e
 intro v hv
 rw [s0r] at hv
 simp only [List.mem_cons, List.not_mem_nil, or_false] at hv
 rcases hv with rfl | rfl | rfl | rfl | rfl <;> rfl
theorem zeroN (V : View) : numC V [Value.bool false, Value.slice none 0 0, Value.bool false, Value.slice none 0 0, Value.slice none 0 0] Cq.zero := ⟨_, rfl, n02.zero V⟩
theorem i0x {V : View} {n : NumV} {z : Cq} (h : atN V n z) (hz : okN z) : a00 prog P0e #[n.val] V fun v _ => v = .bool (numO.clr z) := m0b h (by unfold okN at hz; omega)
theorem divN {V : View} {n k : NumV} {z w : Cq} (h : atN V n z) (h' : atN V k w) (hz : okN z) (hw : okN w) (hc : numO.clr w = true) :
 a00 prog O0j #[n.val, k.val] V fun v V' => ∃ r : NumV, v = .tuple #[r.val, .int .i64 0] ∧ atN V' r (numO.div z w) := by
 refine (P0d h h' hz hw).mono fun v V' _ ⟨r, e, hv, _, h2⟩ => ?_
 obtain ⟨g1, g2⟩ := h2 (K0i.1 hc)
 subst g1
 exact ⟨r, hv, g2⟩
theorem m0s {x y u : Cq} (hx : okN x) (hy : okN y) (hu : okN u) : (Cq.div x y).sz ≤ 4 * 2 ^ 36 + 8 ∧ (Cq.div x y * u).sz ≤ 5 * 2 ^ 36 + 9 := by
 have h1 := Q0n hx hy
 have h2 := O04 (Cq.div x y) u
 unfold okN at hu
 omega
theorem H0x {V : View} {n k : NumV} {x y u : Cq} (h : atN V n (numO.div x y)) (h' : atN V k u) (hx : okN x) (hy : okN y) (hu : okN u) :
 a00 prog T0e #[n.val, k.val] V fun v V' => ∃ r : NumV, v = r.val ∧ atN V' r (numO.mul (numO.div x y) u) := by
 have hs := m0s hx hy hu
 exact Q05 (z := Cq.div x y) (w := u) h h' (by omega) (by unfold okN at hu; omega)
theorem I0x {V : View} {n k : NumV} {z x y u : Cq} (h : atN V n z) (h' : atN V k (numO.mul (numO.div x y) u)) (hz : okN z) (hx : okN x) (hy : okN y) (hu : okN u) :
 a00 prog O0e #[n.val, k.val] V fun v V' => ∃ r : NumV, v = r.val ∧ atN V' r (numO.sub z (numO.mul (numO.div x y) u)) := by
 have hs := m0s hx hy hu
 exact j0a (z := z) (w := Cq.div x y * u) h h' (by unfold okN at hz; omega) (by omega)
theorem mulN {V : View} {n k : NumV} {x y : Cq} (h : atN V n x) (h' : atN V k y) (hx : okN x) (hy : okN y) :
 a00 prog T0e #[n.val, k.val] V fun v V' => ∃ r : NumV, v = r.val ∧ atN V' r (numO.mul x y) :=
 Q05 (z := x) (w := y) h h' (by unfold okN at hx; omega) (by unfold okN at hy; omega)
theorem subN {V : View} {n k : NumV} {x y z : Cq} (h : atN V n x) (h' : atN V k (numO.mul y z)) (hx : okN x) (hy : okN y) (hz : okN z) :
 a00 prog O0e #[n.val, k.val] V fun v V' => ∃ r : NumV, v = r.val ∧ atN V' r (numO.sub x (numO.mul y z)) := by
 have := O04 y z
 unfold okN at hx hy hz
 exact j0a (z := x) (w := y * z) h h' (by omega) (by omega)
def ofN (k : Int) : Cq := ⟨(k : Rat), 0⟩
def K0u (z : Cq) : Cq := -z
def zvN : NumV := NumV.mk (WhV.mk false (Sl.mk none 0 0)) (WhV.mk false (Sl.mk none 0 0)) (Sl.mk none 0 0)
theorem U0v {V : View} (x : NumV) {y : NumV} {k : Int} (hy : n02 V y ⟨(k : Rat), 0⟩) (_ : k = 0 ∨ k = 1) : a00 prog t0n #[x.val, y.val] V fun v V' => ∃ r : NumV, v = r.val ∧ atN V' r (ofN k) := Q0m hy
theorem J0x {V : View} {n k : NumV} {x y : Cq} (h : atN V n x) (h' : atN V k y) (hx : okN x) (hy : okN y) : a00 prog Y0g #[n.val, k.val] V fun v _ => v = .bool (decide (x = y)) :=
 c0j h h' (by unfold okN at hx; omega) (by unfold okN at hy; omega)
theorem negN {V : View} {n : NumV} {x : Cq} (h : atN V n x) : a00 prog M0j #[n.val] V fun v V' => ∃ r : NumV, v = r.val ∧ atN V' r (K0u x) := i0a h
theorem W0v : okN (ofN 0) := by
 have h : (ofN 0).sz ≤ 1 := by
  have := S04
  have e : ofN 0 = Cq.zero := rfl
  rw [e]; exact this
 unfold okN; omega

theorem e0e {V : View} {s : Sl} {p : Option Addr} {k : Nat} (hp : V.load p = some (.int .i64 (k : Int))) :
 a00 prog B04 #[s.v, .pointer p] V fun v _ => v = .bool (decide (s.len ≠ k)) := by
 refine j08 s p V _ ⟨_, hp, ?_⟩
 congr 1
 by_cases e : s.len = k
 · subst e; simp
 · simp [e]; omega
theorem B0c {V : View} {p : Sl} {rows : List (List Cq)} (h : N03 5 numC V p rows) (hn : rows.length ≤ 2 ^ 40) (q : Fn1) {k : Nat} (hp : V.load q.p0 = some (.int .i64 (k : Int))) :
 a00 prog Y02 #[p.v, q.val B04] V fun v _ => ∃ r : Int, v = .int .i64 r ∧ (0 ≤ r ↔ ∃ row, row ∈ rows ∧ row.length ≠ k) := by
 have hl : p.len = rows.length := h.len
 refine u02 p q V _ (fun _ x _ => ∃ t : Nat, x.t8 = t ∧ t ≤ rows.length ∧ ∀ row, row ∈ rows.take t → row.length = k) (fun _ x _ => rows.length - x.t8.toNat) ⟨⟨0, rfl, by omega, by simp⟩, ?_⟩
 rintro ⟨t⟩ V1 l1 ⟨t', ht, htn, hi⟩
 dsimp only at ht ⊢
 subst ht
 refine ⟨fun hlt => ?_, fun hge => ?_⟩
 · simp only [decide_eq_true_eq] at hlt
   have hk : t' < rows.length := by omega
   obtain ⟨g1, s, g2, g3⟩ := (h.le numC.le l1).row (t := (t' : Int)) (by omega) (row := rows[t']) (by simp)
   refine ⟨g1, s, g2, (e0e (d02 l1 hp)).mono fun v V2 l2 hv => ⟨_, hv, fun hr => ⟨_, rfl, ?_⟩, fun hr => ?_⟩⟩
   · have hne := of_decide_eq_true hr
     rw [g3.len] at hne
     exact ⟨fun _ => ⟨rows[t'], List.getElem_mem hk, hne⟩, fun _ => by omega⟩
   · have he : s.len = k := by simpa using hr
     rw [g3.len] at he
     rw [i64w (by omega) (by omega)]
     refine ⟨⟨t' + 1, by omega, by omega, fun row hrow => ?_⟩, by omega⟩
     rw [List.take_add_one, List.getElem?_eq_getElem hk] at hrow
     simp only [Option.toList_some, List.mem_append, List.mem_singleton] at hrow
     rcases hrow with hrow | hrow
     · exact hi row hrow
     · subst hrow; exact he
 · simp only [decide_eq_false_iff_not] at hge
   have e : t' = rows.length := by omega
   subst e
   rw [List.take_length] at hi
   exact ⟨-1, rfl, fun h => absurd h (by omega), fun ⟨row, h1, h2⟩ => absurd (hi row h1) h2⟩
theorem k0a {V : View} {p : Sl} {rows : List (List Cq)} (h : N03 5 numC V p rows) (hn : rows.length ≤ 2 ^ 40) (q : Fn1) {k : Nat} (hp : V.load q.p0 = some (.int .i64 (k : Int))) :
 a00 prog C02 #[p.v, q.val B04] V fun v _ => v = .bool (rows.any fun row => decide (row.length ≠ k)) := by
 refine e02 p q V _ ((B0c h hn q hp).mono fun v V1 l1 ⟨r, hv, hr⟩ => ⟨r, hv, ?_⟩)
 congr 1
 rw [Bool.eq_iff_iff]
 simp only [ge_iff_le, decide_eq_true_eq, List.any_eq_true]
 exact hr
def W06 (rows : List (List Cq)) : Nat := (rows.headD []).length
def J0f (rows : List (List Cq)) : Bool := rows.isEmpty || (decide (rows.length ≤ 32) && decide (W06 rows ≤ 32) && !(rows.any fun row => decide (row.length ≠ W06 rows)))
theorem b0b {V : View} {p : Sl} {rows : List (List Cq)} (h : N03 5 numC V p rows) (hn : rows.length ≤ 2 ^ 40) :
 a00 prog x09 #[p.v] V fun v _ => v = .tuple #[.int .i64 (W06 rows : Int), .bool (J0f rows)] := by
 have hl : p.len = rows.length := h.len
 refine d09 p V _ ⟨fun h0 => ?_, fun h0 => ?_⟩
 · have e : rows = [] := List.length_eq_zero_iff.1 (by simp at h0; omega)
   subst e; rfl
 · have hne : 0 < rows.length := by simp at h0; omega
   obtain ⟨row, rest, e⟩ : ∃ row rest, rows = row :: rest := by
    cases rows with
    | nil => simp at hne
    | cons a l => exact ⟨a, l, rfl⟩
   obtain ⟨g1, s, g2, g3⟩ := h.row (t := (0 : Int)) (by omega) (row := row) (by subst e; rfl)
   refine ⟨g1, s, g2, fun b1 V1 l1 hb1 => ?_⟩
   have hld : V1.load (some (Addr.mk b1 0 none)) = some (.int .i64 (s.len : Int)) := by
    have := P04 (j := 0) hb1
    simpa [Addr.add] using this
   have hs : s.len = W06 rows := by subst e; exact g3.len
   rw [hs] at hld
   have hE : rows.isEmpty = false := by subst e; rfl
   refine ⟨_, hld, fun h1 => ⟨_, hld, fun h2 => ?_, fun h2 => ?_⟩, fun h1 => ?_⟩
   · simp only [decide_eq_true_eq] at h1 h2
     refine (k0a (h.le numC.le l1) hn ⟨some (Addr.mk b1 0 none)⟩ hld).mono fun v V2 l2 hv => ⟨_, hv, ?_⟩
     have e1 : decide (rows.length ≤ 32) = true := by simp; omega
     have e2 : decide (W06 rows ≤ 32) = true := by simp; omega
     simp only [J0f, hE, e1, e2, Bool.false_or, Bool.true_and]
   · simp only [decide_eq_false_iff_not] at h2
     have e2 : decide (W06 rows ≤ 32) = false := by simp; omega
     simp only [J0f, hE, e2, Bool.false_or, Bool.and_false, Bool.false_and]
   · simp only [decide_eq_false_iff_not] at h1
     have e1 : decide (rows.length ≤ 32) = false := by simp; omega
     simp only [J0f, hE, e1, Bool.false_or, Bool.false_and]
theorem l0a {V : View} {p : Sl} {rows : List (List Cq)} (h : N03 5 numC V p rows) (hn : rows.length ≤ 2 ^ 40) :
 a00 prog e06 #[p.v] V fun v _ => v = .bool (J0f rows && decide (W06 rows = rows.length)) := by
 have hl : p.len = rows.length := h.len
 refine H08 p V _ ((b0b h hn).mono fun v V1 l1 hv => ⟨_, _, hv, fun h1 => ?_, fun h1 => ?_⟩)
 · rw [h1, Bool.true_and, hl]
   congr 1
   by_cases e : W06 rows = rows.length
   · simp [e]
   · simp [e]; omega
 · rw [h1, Bool.false_and]
theorem K0x {V : View} {o : List Value} {row : List Cq} (h : G01 5 numC V o row) : ∀ v ∈ o, Value.oneCell' v = true := by
 induction row generalizing o with
 | nil => rw [show o = [] from h]; simp
 | cons z zs ih =>
   obtain ⟨x, o', e, hx, hp, ht⟩ := h
   subst e
   intro v hv
   rw [List.mem_append] at hv
   rcases hv with hv | hv
   · exact oneN hp v hv
   · exact ih ht v hv
theorem C0c {m V : View} {s : Sl} {row : List Cq} {o : List Value} (hC : G01 5 numC V o row) (ho : has2 m V s.a o) (hl : s.len = row.length) (ha : s.a = none → row = []) (hb : row.length ≤ 2 ^ 30) :
 U04 prog f06 #[s.v] m V fun v m' V' => ∃ (r : Sl) (b : Nat), v = r.v ∧ RowR 5 numC m' V' r b row ∧ (row ≠ [] → m b = none) ∧ (∀ i, i ≠ b ∨ row = [] → m' i = m i) := by
 refine S05 m s V _ ⟨trivial, fun h => ?_, fun h b1 V1 l1 hf hb1 => ?_⟩
 · have e := ha (by simpa using h)
   exact ⟨⟨none, 0, 0⟩, 0, rfl, ⟨by rw [e]; rfl, Nat.le_refl _, fun _ => rfl, fun h => absurd e h⟩, fun h => absurd e h, fun _ _ => rfl⟩
 · have hol := hC.length
   refine ⟨[], o, ⟨Nat.le_refl _, fun h => by simp at h⟩, .inl (by intro j v hj; simp at hj), by simp, z0e l1 ho, by rw [hol, hl], K0x hC, by unfold maxLen; omega, by omega, fun h1 h2 => by omega, fun a1 c1 m1 ha1 => ?_⟩
   have hC1 : G01 5 numC V1 o row := hC.imp (numC.le l1)
   obtain ⟨b, hr, hb2, hm, hm2⟩ := P0h hC1 rfl hl ha1
   exact ⟨_, b, rfl, hr, hb2, fun i hi => by
    rcases hi with hi | hi
    · exact hm i hi
    · rw [hm2 hi]⟩
def P06 (A : Nat → Nat → Cq) (w : Nat) (C : Nat → Nat → Cq) : Nat → Nat → Cq := fun i k => if k < w then A i k else C (k - w) i
theorem J07 {V : View} {p q : Sl} {n w u : Nat} {A C : Nat → Nat → Cq} (h : N03 5 numC V p (matL n w A)) (hq : N03 5 numC V q (matL u n C)) (hn : n ≤ 2 ^ 20) (hw : w ≤ 2 ^ 20) (hu : u ≤ 2 ^ 20) :
 U04 prog I09 #[p.v, q.v] (fun _ => none : View) V fun v m' V' => ∃ r : Sl, v = r.v ∧ MatR 5 numC m' V' r n (w + u) (P06 A w C) := by
 have hl : p.len = n := by have := h.len; rw [I00] at this; exact this
 have hql : q.len = u := by have := hq.len; rw [I00] at this; exact this
 refine A09 (fun _ => none) p q V _ (fun _ x V' => ∃ t : Nat, x.t15 = t ∧ t ≤ n ∧ x.o12.length = n ∧ f07 5 numC x.o0 V' x.o12 t (fun i => rowL (w + u) (P06 A w C i))) (fun _ x _ => n - x.t15.toNat)
  (fun c x V' => ∃ t k : Nat, c.t15 = t ∧ t < n ∧ x.t27 = k ∧ k ≤ u ∧ x.o12.length = n ∧ f07 5 numC x.o0 V' x.o12 (t + 1) (fun i => if i = t then rowL (w + k) (P06 A w C i) else rowL (w + u) (P06 A w C i))) (fun _ x _ => u - x.t27.toNat) ?_
 rw [hl]
 refine ⟨⟨by omega, by omega, by omega, by omega⟩, ⟨0, rfl, by omega, by simp, T0f _ _ _ _⟩, ?_⟩
 rintro ⟨t15, o0, o12⟩ V1 l1 ⟨t, ht, htn, hlen, hR⟩
 dsimp only at ht hlen hR ⊢
 subst ht
 refine ⟨fun hlt => ?_, fun hge => ?_⟩
 · simp only [decide_eq_true_eq] at hlt
   have hk : t < n := by omega
   obtain ⟨g1, s, g2, g3⟩ := (h.le numC.le l1).row (t := (t : Int)) (by omega) (row := rowL w (A t)) (by rw [Int.toNat_natCast]; exact x04 hk A)
   rw [hl] at g1
   obtain ⟨o, ho, hC⟩ := g3.cells
   refine ⟨g1, s, .inr g2, ?_⟩
   refine (C0c hC (.inr ho) g3.len (fun e => ?_) (by rw [Q00]; omega)).mono fun v m1 V2 l2 _ ⟨r, b, hv, hr, hb, hm⟩ => ⟨r, hv, ⟨by omega, by omega⟩, by rw [hlen, Int.toNat_natCast]; omega, ?_, ?_⟩
   · by_cases e2 : rowL w (A t) = []
     · exact e2
     · have := g3.some e2; rw [e] at this; simp at this
   · refine ⟨t, 0, rfl, hk, rfl, by omega, by simp [hlen], ?_⟩
     have := (hR.le numC.le l2).push (by omega) hr hb hm
     have e1 : (0 + Int.toNat (t : Int) * 1) = t := by omega
     rw [e1]
     refine this.congr fun i hi => ?_
     by_cases e : i = t
     · subst e
       simp only [if_true, Nat.add_zero]
       exact N08 fun k hk => by simp [P06, hk]
     · simp [e]
   · rintro ⟨t27, o0', o12'⟩ V3 l3 ⟨t', k, ht', htn', hk27, hku, hlen', hR'⟩
     dsimp only at ht' hk27 hlen' hR' ⊢
     have : t' = t := by omega
     subst this
     subst hk27
     rw [hql]
     refine ⟨fun hlt2 => ?_, fun hge2 => ?_⟩
     · simp only [decide_eq_true_eq] at hlt2
       have hku2 : k < u := by omega
       have lq := View.le_trans l1 (View.le_trans l2 l3)
       obtain ⟨q1, s2, q2, q3⟩ := (hq.le numC.le lq).row (t := (k : Int)) (by omega) (row := rowL n (C k)) (by rw [Int.toNat_natCast]; exact x04 hku2 C)
       rw [hql] at q1
       obtain ⟨s3, e3, r1, r2, r3, ⟨o3, r4, r5, r6⟩, r7⟩ := hR'.row (i := t') (by omega)
       obtain ⟨c1, x, hx, hxl, hh, hs⟩ := s00.get q3 (t := (t' : Int)) (by omega) (z := C k t') (by rw [Int.toNat_natCast]; exact w03 hk _)
       obtain ⟨y, ey, hy⟩ := elN hx
       subst ey
       simp only [if_true] at r1 r6
       rw [Q00] at r1
       refine ⟨q1, s2, .inr q2, ⟨by omega, by omega⟩, s3, by rw [Int.toNat_natCast, Nat.mul_one, Nat.zero_add]; exact e3, c1, y, .inr hh, hs, fun b1 V4 l4 hf4 hb4 => ?_⟩
       have hnew : V4.has (some (Addr.mk b1 0 none)) y.val.cells.toList := by
        refine p05 (cs := y.val.cells.toList) (j := 0) hb4 (fun i v hv => by rw [Nat.zero_add]; exact hv) rfl
       refine ⟨o3, _, ⟨r2, r3⟩, z0e l4 r4, r5, .inr hnew, by rw [hxl], oneN (numC.le l4 _ _ hx), by unfold maxLen; omega, by omega, fun _ h2 => r7 1 (by omega) h2, fun a1 c1 m2 ha => ⟨⟨by omega, by omega⟩, by rw [hlen', Int.toNat_natCast]; omega, ?_⟩⟩
       have := (hR'.le numC.le l4).app (i := t') (by omega) e3 hxl (numC.le l4 _ _ hx) (o' := o3) (by simp only [if_true]; exact r6.imp (numC.le l4)) ha
       rw [i64w (by omega) (by omega)]
       refine ⟨⟨t', k + 1, rfl, htn', by omega, by omega, by simp [hlen'], ?_⟩, by omega⟩
       have e1 : (0 + Int.toNat (t' : Int) * 1) = t' := by omega
       rw [e1]
       refine this.congr fun i hi => ?_
       by_cases e : i = t'
       · subst e
         simp only [if_true]
         rw [show C k i = P06 A w C i (w + k) by unfold P06; rw [if_neg (by omega), Nat.add_sub_cancel_left], o0c]; rfl
       · simp [e]
     · simp only [decide_eq_false_iff_not] at hge2
       have e : k = u := by omega
       subst e
       rw [i64w (by omega) (by omega)]
       refine ⟨⟨t' + 1, by omega, by omega, hlen', hR'.congr fun i hi => ?_⟩, by omega⟩
       by_cases e : i = t' <;> simp [e]
 · simp only [decide_eq_false_iff_not] at hge
   intro b3 hb3 hb4
   have e : t = n := by omega
   subst e
   rw [Int.toNat_natCast]
   exact ⟨_, rfl, hR.mat hlen hb3⟩
theorem o06 {m V : View} {p : Sl} {n w : Nat} {A : Nat → Nat → Cq} (Q : Nat → Cq → Prop) (h : MatR 5 numC m V p n w A) (hn : n ≤ w) (hw : w ≤ 2 ^ 20)
 (q1 : ∀ c x, c ≤ n → Q c x → okN x) (q2 : ∀ c x y z u, Q c x → Q c y → Q c z → Q c u → Q (c + 1) (numO.sub x (numO.mul (numO.div y z) u))) (q3 : ∀ c x, Q c x → Q (c + 1) x) (hA : ∀ i j, i < n → j < w → Q 0 (A i j)) :
 U04 prog y08 #[p.v] m V fun v m' V' => v = .tuple #[.int .i64 ((elim numO n w A).2.1 : Nat), .int .i64 (match (elim numO n w A).2.2 with | none => -1 | some c => (c : Int))] ∧ MatR 5 numC m' V' p n w (elim numO n w A).1 := by
 have hl := h.len
 refine k08 m p V _
  (fun _ x V' => ∃ (c s : Nat) (B : Nat → Nat → Cq), x.t13 = c ∧ x.t4 = s ∧ c ≤ n ∧ s ≤ c ∧ MatR 5 numC x.o0 V' p n w B ∧ O03 numO n w (n - c) c B s = elim numO n w A ∧ ∀ i j, i < n → j < w → Q c (B i j))
  (fun _ x _ => n - x.t13.toNat)
  (fun c x V' => ∃ (k s : Nat) (B : Nat → Nat → Cq), c.t13 = k ∧ c.t4 = s ∧ k < n ∧ s ≤ k ∧ MatR 5 numC c.o0 V' p n w B ∧ O03 numO n w (n - k) k B s = elim numO n w A ∧ (∀ i j, i < n → j < w → Q k (B i j)) ∧ x.t6 = (pivF numO B k n : Nat))
  (fun c x V' => ∃ (k s : Nat) (B : Nat → Nat → Cq) (t : Nat), c.t13 = k ∧ c.t4 = s ∧ k < n ∧ s ≤ k ∧ MatR 5 numC c.o0 V' p n w B ∧ O03 numO n w (n - k) k B s = elim numO n w A ∧ (∀ i j, i < n → j < w → Q k (B i j)) ∧ x.t6 = t ∧ k ≤ t ∧ t ≤ n ∧ ∀ q, k ≤ q → q < t → numO.clr (B q k) = false)
  (fun _ x _ => n - x.t6.toNat)
  (fun c x V' => ∃ (k s : Nat) (B : Nat → Nat → Cq), c.t13 = k ∧ x.t4 = s ∧ k < n ∧ s ≤ k + 1 ∧ MatR 5 numC x.o0 V' p n w B ∧ O03 numO n w (n - (k + 1)) (k + 1) (colF numO w B k n) s = elim numO n w A ∧ (∀ i j, i < n → j < w → Q k (B i j)) ∧ numO.clr (B k k) = true)
  (fun c x V' => ∃ (k s : Nat) (B : Nat → Nat → Cq) (R : Nat), c.t13 = k ∧ c.t4 = s ∧ k < n ∧ s ≤ k + 1 ∧ x.t7 = R ∧ k < R ∧ R ≤ n ∧ MatR 5 numC x.o0 V' p n w (colF numO w B k R) ∧ O03 numO n w (n - (k + 1)) (k + 1) (colF numO w B k n) s = elim numO n w A ∧ (∀ i j, i < n → j < w → Q k (B i j)) ∧ numO.clr (B k k) = true)
  (fun _ x _ => n - x.t7.toNat)
  (fun c x V' => ∃ (k s : Nat) (B : Nat → Nat → Cq) (R K : Nat), c.t13 = k ∧ c.t4 = s ∧ k < n ∧ s ≤ k + 1 ∧ c.t7 = R ∧ k < R ∧ R < n ∧ x.t10 = K ∧ k < K ∧ K ≤ w ∧ atN V' ⟨⟨c.o8_0, c.o8_1⟩, ⟨c.o8_2, c.o8_3⟩, c.o8_4⟩ (numO.div (B R k) (B k k)) ∧
    MatR 5 numC x.o0 V' p n w (rowF numO (colF numO w B k R) k R (numO.div (B R k) (B k k)) K) ∧ O03 numO n w (n - (k + 1)) (k + 1) (colF numO w B k n) s = elim numO n w A ∧ (∀ i j, i < n → j < w → Q k (B i j)) ∧ numO.clr (B k k) = true)
  (fun _ x _ => w - x.t10.toNat) ?_
 rw [hl]
 refine ⟨⟨0, 0, A, rfl, rfl, by omega, by omega, h, by rw [Nat.sub_zero]; rfl, hA⟩, ?_⟩
 rintro ⟨t4, t13, o0⟩ V1 l1 ⟨c, s, B, e13, e4, hc, hs, hM, hE, hQ⟩
 dsimp only at e13 e4 hM ⊢
 subst e13; subst e4
 refine ⟨fun hlt => ⟨⟨⟨c, s, B, c, rfl, rfl, by simp at hlt; omega, hs, hM, hE, hQ, rfl, by omega, hc, fun q h1 h2 => by omega⟩, ?_⟩, ?_⟩, fun hge => ?_⟩
 · -- the search for the pivot
   rintro ⟨t6⟩ V3 l3 ⟨k, s', B', t, e13, e4, hk, hs', hM', hE', hQ', e6, h1, h2, h3⟩
   dsimp only at e13 e4 e6 hM' ⊢
   obtain rfl : c = k := by omega
   obtain rfl : s = s' := by omega
   subst e6
   refine ⟨fun hlt2 => ?_, fun hge2 => ?_⟩
   · simp only [decide_eq_true_eq] at hlt2
     have ht : t < n := by omega
     obtain ⟨g1, sl, g2, g3, g4, g5, g6, g7, g8⟩ := hM'.row ht
     obtain ⟨x, hx, hxl, hh, hsm⟩ := g7 c (by omega)
     obtain ⟨y, ey, hy⟩ := elN hx
     subst ey
     refine ⟨⟨by omega, by omega, g1⟩, sl, .inl (by rw [Int.toNat_natCast]; exact g2), ⟨by omega, by omega, g5 (by omega)⟩, y, by rw [Int.toNat_natCast]; exact hh, by rw [Int.toNat_natCast]; exact hsm, ?_⟩
     refine (i0x hy (q1 c _ (by omega) (hQ' t c ht (by omega)))).mono fun v V4 l4 hv => ⟨_, hv, fun hb => ?_, fun hb => ?_⟩
     · rw [i64w (by omega) (by omega)]
       refine ⟨⟨c, s, B', t + 1, rfl, rfl, hk, hs', hM'.le numC.le l4, hE', hQ', by omega, by omega, by omega, fun q hq1 hq2 => ?_⟩, by omega⟩
       by_cases e : q = t
       · subst e; simpa using hb
       · exact h3 q hq1 (by omega)
     · refine ⟨c, s, B', rfl, rfl, hk, hs', hM'.le numC.le l4, hE', hQ', ?_⟩
       rw [I0i numO B' h1 h2 h3 (fun _ => by simpa using hb)]
   · simp only [decide_eq_false_iff_not] at hge2
     have e : t = n := by omega
     refine ⟨c, s, B', rfl, rfl, hk, hs', hM', hE', hQ', ?_⟩
     rw [I0i numO B' h1 h2 h3 (fun h => by omega)]
 · -- behind it
   rintro ⟨t6⟩ V2 l2 ⟨k, s', B', e13, e4, hk, hs', hM', hE', hQ', e6⟩
   dsimp only at e13 e4 e6 hM' ⊢
   obtain rfl : c = k := by omega
   obtain rfl : s = s' := by omega
   subst e6
   obtain ⟨p1, p2, p3, p4⟩ := k06 numO B' (c := c) (n := n) (by omega)
   refine ⟨fun heq => ?_, fun hne => ⟨⟨fun hsw => ?_, fun hns => ?_⟩, ?_⟩⟩
   · have e : pivF numO B' c n = n := by simp at heq; omega
     rw [← hE', t0h numO n w hk B' s e]
     exact ⟨rfl, hM'⟩
   · have hpn : pivF numO B' c n < n := by simp at hne; omega
     have hpc : pivF numO B' c n ≠ c := by simp at hsw; omega
     obtain ⟨g1, sc, g2, _⟩ := hM'.row hk
     obtain ⟨_, sp, k2, _⟩ := hM'.row hpn
     obtain ⟨b1, c1, l1', u1, u2, u3, b2, c2, l2', u4, u5, u6, u7⟩ := hM'.swap (by omega) hk hpn g2 k2
     refine ⟨⟨by omega, by omega, g1⟩, sc, .inl (by rw [Int.toNat_natCast]; exact g2), ⟨by omega, by omega, g1⟩, sp, .inl (by rw [Int.toNat_natCast]; exact k2), ⟨by omega, by omega, g1⟩, b1, c1, l1', by rw [Int.toNat_natCast]; exact u1, u2, u3, ⟨by omega, by omega, g1⟩, b2, c2, l2', by rw [Int.toNat_natCast]; exact u4, u5, u6, ?_⟩
     rw [s0e numO n w hk B' s (by omega), if_neg hpc] at hE'
     have ep : d05 B' c (pivF numO B' c n) = o08 B' c (pivF numO B' c n) := by unfold d05; rw [if_neg hpc]
     rw [i64w (by omega) (by omega)]
     refine ⟨c, s + 1, o08 B' c (pivF numO B' c n), rfl, by omega, hk, by omega, u7, by rw [← ep]; exact hE', fun i j hi hj => ?_, ?_⟩
     · unfold o08
       split
       · exact hQ' _ j hpn hj
       · split
         · exact hQ' _ j hk hj
         · exact hQ' i j hi hj
     · simp only [o08, if_true]; exact p4 hpn
   · have hpc : pivF numO B' c n = c := by simp at hns; omega
     have hpn : pivF numO B' c n < n := by omega
     rw [s0e numO n w hk B' s (by omega), if_pos hpc] at hE'
     have ep : d05 B' c (pivF numO B' c n) = B' := by unfold d05; rw [if_pos hpc]
     rw [ep] at hE'
     exact ⟨c, s, B', rfl, rfl, hk, by omega, hM', hE', hQ', by have := p4 hpn; rw [hpc] at this; exact this⟩
   · -- the rows behind
     clear p1 p2 p3 p4 hE' hQ' hM'
     rintro ⟨t4', o0'⟩ V5 l5 ⟨k, s2, B2, e13', e4', hk2, hs2, hM2, hE2, hQ2, hcl⟩
     dsimp only at e13' e4' hM2 ⊢
     obtain rfl : c = k := by omega
     subst e4'
     refine ⟨⟨c, s2, B2, c + 1, rfl, rfl, hk, hs2, by rw [i64w (by omega) (by omega)]; omega, by omega, by omega, by rw [q0h]; exact hM2, hE2, hQ2, hcl⟩, ?_⟩
     clear hM2 hE2 hQ2 hcl
     rintro ⟨t7, o0''⟩ V6 l6 ⟨k, s3, B3, R, f13, f4, hk3, hs3, f7, hkR, hRn, hM3, hE3, hQ3, hcl3⟩
     dsimp only at f13 f4 f7 hM3 ⊢
     obtain rfl : c = k := by omega
     obtain rfl : s2 = s3 := by omega
     subst f7
     refine ⟨fun hlt2 => ?_, fun hge2 => ?_⟩
     · simp only [decide_eq_true_eq] at hlt2
       have hR : R < n := by omega
       obtain ⟨g1, sr, g2, g3, g4, g5, g6, g7, g8⟩ := hM3.row hR
       obtain ⟨_, sc, k2, k3, k4, k5, k6, k7, k8⟩ := hM3.row hk
       obtain ⟨x, hx, hxl, hh, hsm⟩ := g7 c (by omega)
       obtain ⟨x', hx', hxl', hh', hsm'⟩ := k7 c (by omega)
       rw [t0f] at hx
       rw [s0f] at hx'
       obtain ⟨y, ey, hy⟩ := elN hx
       obtain ⟨y', ey', hy'⟩ := elN hx'
       subst ey; subst ey'
       refine ⟨⟨by omega, by omega, g1⟩, sr, .inl (by rw [Int.toNat_natCast]; exact g2), ⟨by omega, by omega, g5 (by omega)⟩, y, by rw [Int.toNat_natCast]; exact hh, by rw [Int.toNat_natCast]; exact hsm,
        ⟨by omega, by omega, g1⟩, sc, .inl (by rw [Int.toNat_natCast]; exact k2), ⟨by omega, by omega, k5 (by omega)⟩, y', by rw [Int.toNat_natCast]; exact hh', by rw [Int.toNat_natCast]; exact hsm', ?_⟩
       have qR := hQ3 R c hR (by omega)
       have qc := hQ3 c c hk (by omega)
       refine (divN hy hy' (q1 c _ (by omega) qR) (q1 c _ (by omega) qc) hcl3).mono fun v V7 l7 ⟨r2, hv, hr2⟩ => ⟨r2, 0, hv, ⟨c, s2, B3, R, c + 1, rfl, rfl, hk, hs3, rfl, hkR, hR, by rw [i64w (by omega) (by omega)]; omega, by omega, by omega, hr2, ?_, hE3, hQ3, hcl3⟩, ?_⟩
       · rw [s0h]; exact hM3.le numC.le l7
       · clear hM3 g1 g2 g3 g4 g5 g6 g7 g8 k2 k3 k4 k5 k6 k7 k8 hh hsm hh' hsm' hx hx' hy hy'
         rintro ⟨t10, o0'''⟩ V8 l8 ⟨k, s4, B4, R', K, d13, d4, hk4, hs4, d7, hkR4, hR4, d10, hkK, hKw, hf, hM4, hE4, hQ4, hcl4⟩
         dsimp only at d13 d4 d7 d10 hf hM4 ⊢
         obtain rfl : c = k := by omega
         obtain rfl : s2 = s4 := by omega
         obtain rfl : R = R' := by omega
         subst d10
         obtain ⟨g1, sr, g2, g3, g4, g5, g6, g7, g8⟩ := hM4.row hR
         refine ⟨⟨by omega, by omega, g1⟩, sr, .inl (by rw [Int.toNat_natCast]; exact g2), fun hlt3 => ?_, fun hge3 => ?_⟩
         · simp only [decide_eq_true_eq] at hlt3
           have hK : K < w := by omega
           obtain ⟨_, sc, k2, k3, k4, k5, k6, k7, k8⟩ := hM4.row hk
           obtain ⟨x, hx, hxl, hh, hsm⟩ := g7 K hK
           obtain ⟨x', hx', hxl', hh', hsm'⟩ := k7 K hK
           rw [t0u, t0f] at hx
           rw [s0u numO _ _ _ (by omega), s0f] at hx'
           obtain ⟨y, ey, hy⟩ := elN hx
           obtain ⟨y', ey', hy'⟩ := elN hx'
           subst ey; subst ey'
           have qR := hQ4 R c hR (by omega)
           have qc := hQ4 c c hk (by omega)
           have qRK := hQ4 R K hR hK
           have qcK := hQ4 c K hk hK
           refine ⟨⟨by omega, by omega, g1⟩, sr, .inl (by rw [Int.toNat_natCast]; exact g2), ⟨by omega, by omega, g1⟩, sr, .inl (by rw [Int.toNat_natCast]; exact g2), ⟨by omega, by omega, g5 (by omega)⟩, y, by rw [Int.toNat_natCast]; exact hh, by rw [Int.toNat_natCast]; exact hsm,
            ⟨by omega, by omega, g1⟩, sc, .inl (by rw [Int.toNat_natCast]; exact k2), ⟨by omega, by omega, k5 (by omega)⟩, y', by rw [Int.toNat_natCast]; exact hh', by rw [Int.toNat_natCast]; exact hsm', ?_⟩
           refine (H0x hf hy' (q1 c _ (by omega) qR) (q1 c _ (by omega) qc) (q1 c _ (by omega) qcK)).mono fun v V9 l9 ⟨r4, hv, hr4⟩ => ⟨r4, hv, ?_⟩
           refine (I0x (atN.le l9 hy) hr4 (q1 c _ (by omega) qRK) (q1 c _ (by omega) qR) (q1 c _ (by omega) qc) (q1 c _ (by omega) qcK)).mono fun v V10 l10 ⟨r5, hv, hr5⟩ => ⟨r5, hv, ⟨by omega, by omega, g5 (by omega)⟩, ?_⟩
           obtain ⟨v1, v2, b3, c3, l3, v3, v4, v5, v6⟩ := (hM4.le numC.le (View.le_trans l9 l10)).put hR hK (lenN r5) (g0x hr5) g2
           refine ⟨b3, c3, l3, by rw [Int.toNat_natCast]; exact v3, v4, v5, ?_⟩
           rw [i64w (by omega) (by omega)]
           refine ⟨⟨c, s2, B4, R, K + 1, rfl, rfl, hk, hs4, rfl, hkR, hR, by omega, by omega, by omega, atN.le (View.le_trans l9 l10) hf, ?_, hE4, hQ4, hcl4⟩, by omega⟩
           have e := L0k numO (colF numO w B4 c R) (c := c) (R := R) (numO.div (B4 R c) (B4 c c)) hkK
           rw [← e, t0f, s0f]; exact v6
         · simp only [decide_eq_false_iff_not] at hge3
           have e : K = w := by omega
           subst e
           rw [i64w (by omega) (by omega)]
           rw [z0n numO K B4 hkR] at hM4
           exact ⟨⟨c, s2, B4, R + 1, rfl, rfl, hk, hs4, by omega, by omega, by omega, hM4, hE4, hQ4, hcl4⟩, by omega⟩
     · simp only [decide_eq_false_iff_not] at hge2
       have e : R = n := by omega
       subst e
       rw [i64w (by omega) (by omega)]
       refine ⟨⟨c + 1, s2, colF numO w B3 c R, by omega, rfl, by omega, hs3, hM3, hE3, fun i j hi hj => ?_⟩, by omega⟩
       unfold colF
       split
       · exact q2 c _ _ _ _ (hQ3 i j hi hj) (hQ3 i c hi (by omega)) (hQ3 c c hk (by omega)) (hQ3 c j hk hj)
       · exact q3 c _ (hQ3 i j hi hj)
 · simp only [decide_eq_false_iff_not] at hge
   have e : c = n := by omega
   subst e
   rw [M0k] at hE
   rw [← hE]
   exact ⟨rfl, hM⟩

theorem T0m {n w : Nat} (A : Nat → Nat → Cq) (hn : n ≤ 32) (hw : w ≤ 32) : J0f (matL n w A) = true ∧ (0 < n → W06 (matL n w A) = w) ∧ (n = 0 → W06 (matL n w A) = 0) := by
 have hc : 0 < n → W06 (matL n w A) = w := by
  intro h
  unfold W06 matL
  obtain ⟨m, rfl⟩ : ∃ m, n = m + 1 := ⟨n - 1, by omega⟩
  rw [List.range_succ_eq_map]
  simp [Q00]
 refine ⟨?_, hc, fun h => by subst h; rfl⟩
 unfold J0f
 rcases Nat.eq_zero_or_pos n with h | h
 · subst h; rfl
 · rw [hc h, I00]
   have e : ((matL n w A).any fun row => decide (row.length ≠ w)) = false := by
    rw [List.any_eq_false]
    intro row hrow
    unfold matL at hrow
    obtain ⟨i, _, rfl⟩ := List.mem_map.1 hrow
    simp [Q00]
   rw [e]
   simp [hn, hw]
theorem L0u {V : View} {p : Sl} {n : Nat} {A : Nat → Nat → Cq} (h : N03 5 numC V p (matL n n A)) (hn : n ≤ 32) : a00 prog e06 #[p.v] V fun v _ => v = .bool true := by
 refine (l0a h (by rw [I00]; omega)).mono fun v V1 _ hv => ?_
 obtain ⟨h1, h2, h3⟩ := T0m A hn hn
 rw [hv, h1, I00]
 rcases Nat.eq_zero_or_pos n with e | e
 · rw [h3 e, e]; rfl
 · rw [h2 e]; simp
structure X0v (n : Nat) (Q : Cq → Prop) (qs : Nat → Nat → Cq → Prop) (qx : Nat → Cq → Prop) : Prop where
 r0 : ∀ j x, j < n → Q x → qs j 0 x
 r1 : ∀ j i s a x, j < n → i < j → qs j i s → Q a → qx j x → qs j (i + 1) (numO.sub s (numO.mul a x))
 r2 : ∀ j s a, j < n → qs j j s → Q a → qx (j + 1) (numO.div s a)
 r3 : ∀ j x, j < n → qx j x → qx (j + 1) x
 k1 : ∀ x, Q x → okN x
 k2 : ∀ j i s, j < n → i ≤ j → qs j i s → okN s
 k3 : ∀ j x, j ≤ n → qx j x → okN x
theorem D0c {V : View} {p q : Sl} {n : Nat} {A : Nat → Nat → Cq} {b : Nat → Cq} (h : N03 5 numC V p (matL n n A)) (hb : s00 5 numC V q (rowL n b)) (hn : n ≤ 32)
 (Q : Nat → Cq → Prop) (q1 : ∀ c x, c ≤ n → Q c x → okN x) (q2 : ∀ c x y z u, Q c x → Q c y → Q c z → Q c u → Q (c + 1) (numO.sub x (numO.mul (numO.div y z) u))) (q3 : ∀ c x, Q c x → Q (c + 1) x)
 (hA : ∀ i j, i < n → j < n → Q 0 (A i j)) (hB : ∀ i, i < n → Q 0 (b i)) (qs : Nat → Nat → Cq → Prop) (qx : Nat → Cq → Prop) (hk : X0v n (Q n) qs qx) :
 a00 prog Y06 #[p.v, q.v] V fun v V' => ∃ r : Sl, match (elim numO n (n + 1) (P06 A n fun _ i => b i)).2.2 with
  | none => v = .tuple #[r.v, .int .i64 0] ∧ s00 5 numC V' r (rowL n (t04 numO Cq.zero (elim numO n (n + 1) (P06 A n fun _ i => b i)).1 n n))
  | some _ => v = .tuple #[r.v, .int .i64 6] ∧ r = ⟨none, 0, 0⟩ := by
 have hpl : p.len = n := by have := h.len; rw [I00] at this; exact this
 have hql : q.len = n := by have := hb.len; rw [Q00] at this; exact this
 let W := P06 A n fun _ i => b i
 let B := (elim numO n (n + 1) W).1
 have hWQ : ∀ i j, i < n → j < n + 1 → Q 0 (W i j) := by
  intro i j hi hj
  show Q 0 (if j < n then A i j else b i)
  split
  · exact hA i j hi (by assumption)
  · exact hB i hi
 have hBQ : ∀ i j, i < n → j < n + 1 → Q n (B i j) := H07 numO Q n (n + 1) q2 q3 n 0 W 0 (by omega) (by omega) hWQ
 refine N09 p q V _ (fun _ _ _ => True)
  (fun _ x V' => ∃ j : Nat, x.t10 = (n : Int) - 1 - j ∧ j ≤ n ∧ G01 5 numC V' x.o37 (rowL n (t04 numO Cq.zero B n j)) ∧ ∀ i, n - j ≤ i → i < n → qx j (t04 numO Cq.zero B n j i))
  (fun _ x _ => (x.t10 + 1).toNat)
  (fun c x V' => ∃ j i : Nat, c.t10 = (n : Int) - 1 - j ∧ j < n ∧ x.t12 = (n : Int) - j + i ∧ i ≤ j ∧ G01 5 numC V' x.o37 (rowL n (t04 numO Cq.zero B n j)) ∧ (∀ i, n - j ≤ i → i < n → qx j (t04 numO Cq.zero B n j i)) ∧
    atN V' x.o11 (q0c numO B (t04 numO Cq.zero B n j) (n - (j + 1)) n i) ∧ qs j i (q0c numO B (t04 numO Cq.zero B n j) (n - (j + 1)) n i))
  (fun _ x _ => n - x.t12.toNat) ?_
 rw [hpl, hql]
 refine ⟨(L0u h hn).mono fun v V2 l2 hv => ⟨true, hv, fun hf => absurd hf (by simp), fun _ => ⟨fun hf => absurd hf (by simp), fun _ => trivial⟩⟩, ?_⟩
 rintro ⟨u⟩ V1 l1 -
 intro b3 V5 l5 _ hb3
 have hmore : N03 5 numC V5 ⟨some (Addr.mk b3 0 none), 1, 1⟩ (matL 1 n fun _ i => b i) := by
  have hb5 : s00 5 numC V5 q (rowL n b) := hb.le (numC.le (View.le_trans l1 l5)) (View.le_trans l1 l5)
  refine s00.of_block (o := [q.v]) (o' := []) (b := b3) (fun _ => by simpa using hb3) ?_ (by rw [I00]) (Nat.le_refl _) (fun _ => rfl)
  exact ⟨[q.v], [], rfl, rfl, ⟨q, rfl, hb5⟩, rfl⟩
 refine (J07 (h.le numC.le (View.le_trans l1 l5)) hmore (by omega) (by omega) (by omega)).mono fun v m1 V6 l6 _ ⟨r2, hv, hM⟩ => ⟨r2, hv, ?_⟩
 refine (o06 Q hM (by omega) (by omega) q1 q2 q3 hWQ).mono fun v m2 V7 l7 _ ⟨hv, hM2⟩ => ⟨_, _, hv, by decide, fun V8 l8 hpub => ?_⟩
 have hRB : N03 5 numC V8 r2 (matL n (n + 1) B) := hM2.known (numC.le l8) hpub
 have hr2 : r2.len = n := by have := hRB.len; rw [I00] at this; exact this
 cases hstop : (elim numO n (n + 1) W).2.2 with
 | some c =>
   exact ⟨fun _ => ⟨⟨none, 0, 0⟩, rfl, rfl⟩, fun hf => absurd hf (by simp)⟩
 | none =>
   have hdiag := M0a numO n (n + 1) n 0 W 0 (by omega) (fun i hi => absurd hi (by omega)) hstop
   refine ⟨fun hf => absurd hf (by simp), fun _ => ?_⟩
   refine ⟨⟨by omega, by omega, by omega, by omega⟩, ⟨0, by rw [i64w (by omega) (by omega)]; show (n : Int) - 1 = _; omega, by omega, ?_, fun i h1 h2 => by omega⟩, ?_⟩
   · have := G01.replicate (sz := 5) (P := numC) (V := V8) rfl (zeroN V8) n
     rw [Int.toNat_natCast]
     have e : rowL n (t04 numO Cq.zero B n 0) = List.replicate n Cq.zero := d0d n Cq.zero
     rw [e]; exact this
   rintro ⟨t10, o37⟩ V9 l9 ⟨j, e10, hj, hC, hx⟩
   dsimp only at e10 hC ⊢
   refine ⟨fun hge => ?_, fun hlt => ?_⟩
   · have hjn : j < n := by simp at hge; omega
     have ec : t10.toNat = n - (j + 1) := by omega
     obtain ⟨g1, s1, g2, g3⟩ := (hRB.le numC.le l9).row (t := t10) (by omega) (row := rowL (n + 1) (B (n - (j + 1)))) (by rw [ec]; exact x04 (by omega) B)
     obtain ⟨c1, x, hxx, hxl, hh, hs⟩ := s00.get g3 (t := (n : Int)) (by omega) (z := B (n - (j + 1)) n) (by rw [Int.toNat_natCast]; exact w03 (by omega) _)
     obtain ⟨y, ey, hy⟩ := elN hxx
     subst ey
     refine ⟨g1, s1, g2, c1, y, hh, hs, ⟨j, 0, e10, hjn, by rw [i64w (by omega) (by omega)]; omega, by omega, hC, hx, hy, hk.r0 j _ hjn (hBQ _ _ (by omega) (by omega))⟩, ?_⟩
     clear hh hs hxx hxl g2 g3 c1
     rintro ⟨t12, o11, o37'⟩ V10 l10 ⟨j', i, e10', hj', e12, hi, hC', hx', hS, hqS⟩
     dsimp only at e10' e12 hC' hS ⊢
     obtain rfl : j = j' := by omega
     obtain ⟨g1, s1, g2, g3⟩ := (hRB.le numC.le (View.le_trans l9 l10)).row (t := t10) (by omega) (row := rowL (n + 1) (B (n - (j + 1)))) (by rw [ec]; exact x04 (by omega) B)
     refine ⟨fun hlt2 => ?_, fun hge2 => ?_⟩
     · have hij : i < j := by simp at hlt2; omega
       have ek : t12.toNat = n - (j + 1) + 1 + i := by omega
       obtain ⟨c1, x, hxx, hxl, hh, hs⟩ := s00.get g3 (t := t12) (by omega) (z := B (n - (j + 1)) (n - (j + 1) + 1 + i)) (by rw [ek]; exact w03 (by omega) _)
       obtain ⟨y1, ey, hy1⟩ := elN hxx
       subst ey
       obtain ⟨x', hx2, hxl2, hg⟩ := hC'.at (i := t12.toNat) (z := t04 numO Cq.zero B n j (n - (j + 1) + 1 + i)) (by rw [ek]; exact w03 (by omega) _)
       obtain ⟨y2, ey2, hy2⟩ := elN hx2
       subst ey2
       have qa := hBQ (n - (j + 1)) (n - (j + 1) + 1 + i) (by omega) (by omega)
       have qX := hx' (n - (j + 1) + 1 + i) (by omega) (by omega)
       have okx := hk.k3 j _ (by omega) qX
       refine ⟨g1, s1, g2, c1, y1, hh, hs, ⟨by omega, by omega⟩, y2, hg, ?_⟩
       refine (mulN hy1 hy2 (hk.k1 _ qa) okx).mono fun v V11 l11 ⟨r5, hv, h5⟩ => ⟨r5, hv, ?_⟩
       refine (subN (atN.le l11 hS) h5 (hk.k2 j i _ hjn (by omega) hqS) (hk.k1 _ qa) okx).mono fun v V12 l12 ⟨r6, hv, h6⟩ => ⟨r6, hv, ?_⟩
       rw [i64w (by omega) (by omega)]
       exact ⟨⟨j, i + 1, e10, hjn, by omega, by omega, hC'.imp (numC.le (View.le_trans l11 l12)), hx', h6, hk.r1 j i _ _ _ hjn hij hqS qa qX⟩, by omega⟩
     · have hij : i = j := by simp at hge2; omega
       subst hij
       obtain ⟨c1, x, hxx, hxl, hh, hs⟩ := s00.get g3 (t := t10) (by omega) (z := B (n - (i + 1)) (n - (i + 1))) (by rw [ec]; exact w03 (by omega) _)
       obtain ⟨y1, ey, hy1⟩ := elN hxx
       subst ey
       have qa := hBQ (n - (i + 1)) (n - (i + 1)) (by omega) (by omega)
       refine ⟨g1, s1, g2, c1, y1, hh, hs, ?_⟩
       refine (divN hS hy1 (hk.k2 i i _ hjn (Nat.le_refl _) hqS) (hk.k1 _ qa) (hdiag _ (by omega))).mono fun v V13 l13 ⟨r7, hv, h7⟩ => ⟨r7, 0, hv, ⟨by omega, by omega⟩, ?_, ?_⟩
       · rw [hC'.length, Q00, ec]
         have e2 : (n - (i + 1)) * 5 + 5 = (n - (i + 1) + 1) * 5 := by rw [Nat.add_mul, Nat.one_mul]
         rw [Nat.zero_add, e2]
         exact Nat.mul_le_mul_right _ (by omega)
       · rw [i64w (by omega) (by omega)]
         have hset := (hC'.imp (numC.le l13)).set0 (i := n - (i + 1)) (by rw [Q00]; omega) (lenN r7) (g0x h7)
         rw [o0e] at hset
         refine ⟨⟨i + 1, by omega, by omega, by rw [ec]; exact hset, fun k h1 h2 => ?_⟩, by omega⟩
         simp only [t04]
         by_cases e : k = n - (i + 1)
         · rw [if_pos e]; exact hk.r2 i _ _ hjn hqS qa
         · rw [if_neg e]; exact hk.r3 i _ hjn (hx' k (by omega) h2)
   · have hjn : j = n := by simp at hlt; omega
     subst hjn
     intro b5 V14 l14 hb5
     rw [Int.toNat_natCast]
     refine ⟨⟨some (Addr.mk b5 0 none), j, j⟩, rfl, ?_⟩
     exact T04 hb5 (hC.imp (numC.le l14)) (by rw [Q00])

theorem j0l {V : View} {s : Sl} {row : List Cq} (h : s00 5 numC V s row) {p q : Option Addr} {c : Nat} (hp : V.load p = some (.int .i64 (c : Int))) {x : NumV} (hq : V.has q x.val.cells.toList) (hq2 : q.isSome = true) {z : Cq} (hz : row[c]? = some z) (ok : okN z) :
 a00 prog w05 #[s.v, .pointer p, .pointer q] V fun v _ => v = .bool (decide (z ≠ ofN 0)) := by
 obtain ⟨c1, y, hxx, hxl, hh, hs⟩ := s00.get h (t := (c : Int)) (by omega) (z := z) (by rw [Int.toNat_natCast]; exact hz)
 obtain ⟨y1, ey, hy1⟩ := elN hxx
 subst ey
 refine O09 s p q V _ ⟨_, hp, c1, y1, hh, hs, x, hq, hq2, ?_⟩
 refine (P05 (by omega) (by omega)).mono fun v V1 l1 ⟨r1, hv, h1⟩ => ⟨r1, hv, ?_⟩
 refine (U0v x h1 (.inl rfl)).mono fun v V2 l2 ⟨r2, hv, h2⟩ => ⟨r2, hv, ?_⟩
 refine (J0x (atN.le (View.le_trans l1 l2) hy1) h2 ok W0v).mono fun v V3 l3 hv => ⟨_, hv, ?_⟩
 congr 1
 by_cases e : z = ofN 0 <;> simp [e]
theorem E0c {V : View} {p : Sl} {rows : List (List Cq)} (h : N03 5 numC V p rows) (hn : rows.length ≤ 2 ^ 40) (q : Fn2) {c : Nat} (hp : V.load q.p0 = some (.int .i64 (c : Int))) {x : NumV} (hq : V.has q.p1 x.val.cells.toList) (hq2 : q.p1.isSome = true)
 (zs : List Cq) (hz : ∀ (i : Nat) (row : List Cq), rows[i]? = some row → ∃ z, zs[i]? = some z ∧ row[c]? = some z) (hzl : zs.length = rows.length) (ok : ∀ z, z ∈ zs → okN z) :
 a00 prog Y02 #[p.v, q.val w05] V fun v _ => ∃ r : Int, v = .int .i64 r ∧ (0 ≤ r ↔ ∃ z, z ∈ zs ∧ z ≠ ofN 0) := by
 have hl : p.len = rows.length := h.len
 refine O02 p q V _ (fun _ x _ => ∃ t : Nat, x.t8 = t ∧ t ≤ rows.length ∧ ∀ z, z ∈ zs.take t → z = ofN 0) (fun _ x _ => rows.length - x.t8.toNat) ⟨⟨0, rfl, by omega, by simp⟩, ?_⟩
 rintro ⟨t⟩ V1 l1 ⟨t', ht, htn, hi⟩
 dsimp only at ht ⊢
 subst ht
 refine ⟨fun hlt => ?_, fun hge => ?_⟩
 · simp only [decide_eq_true_eq] at hlt
   have hk : t' < rows.length := by omega
   obtain ⟨z, hz1, hz2⟩ := hz t' rows[t'] (by simp)
   obtain ⟨g1, s, g2, g3⟩ := (h.le numC.le l1).row (t := (t' : Int)) (by omega) (row := rows[t']) (by simp)
   refine ⟨g1, s, g2, (j0l g3 (d02 l1 hp) (w04 l1 hq) hq2 hz2 (ok z (List.mem_of_getElem? hz1))).mono fun v V2 l2 hv => ⟨_, hv, fun hr => ⟨_, rfl, ?_⟩, fun hr => ?_⟩⟩
   · have hne := of_decide_eq_true hr
     exact ⟨fun _ => ⟨z, List.mem_of_getElem? hz1, hne⟩, fun _ => by omega⟩
   · have he : z = ofN 0 := by simpa using hr
     rw [i64w (by omega) (by omega)]
     refine ⟨⟨t' + 1, by omega, by omega, fun y hy => ?_⟩, by omega⟩
     rw [List.take_add_one, hz1] at hy
     simp only [Option.toList_some, List.mem_append, List.mem_singleton] at hy
     rcases hy with hy | hy
     · exact hi y hy
     · rw [hy]; exact he
 · simp only [decide_eq_false_iff_not] at hge
   have e : t' = zs.length := by omega
   subst e
   rw [List.take_length] at hi
   exact ⟨-1, rfl, fun h => absurd h (by omega), fun ⟨z, h1, h2⟩ => absurd (hi z h1) h2⟩
theorem m0a {V : View} {p : Sl} {rows : List (List Cq)} (h : N03 5 numC V p rows) (hn : rows.length ≤ 2 ^ 40) (q : Fn2) {c : Nat} (hp : V.load q.p0 = some (.int .i64 (c : Int))) {x : NumV} (hq : V.has q.p1 x.val.cells.toList) (hq2 : q.p1.isSome = true)
 (zs : List Cq) (hz : ∀ (i : Nat) (row : List Cq), rows[i]? = some row → ∃ z, zs[i]? = some z ∧ row[c]? = some z) (hzl : zs.length = rows.length) (ok : ∀ z, z ∈ zs → okN z) :
 a00 prog C02 #[p.v, q.val w05] V fun v _ => ∃ r : Bool, v = .bool r ∧ (r = true ↔ ∃ z, z ∈ zs ∧ z ≠ ofN 0) := by
 refine z02 p q V _ ((E0c h hn q hp hq hq2 zs hz hzl ok).mono fun v V1 l1 ⟨r, hv, hr⟩ => ⟨r, hv, _, rfl, ?_⟩)
 rw [decide_eq_true_eq]
 exact hr
theorem f0e {V : View} {p : Sl} {n : Nat} {A : Nat → Nat → Cq} (h : N03 5 numC V p (matL n n A)) (hn : n ≤ 32)
 (Q : Nat → Cq → Prop) (q1 : ∀ c x, c ≤ n → Q c x → okN x) (q2 : ∀ c x y z u, Q c x → Q c y → Q c z → Q c u → Q (c + 1) (numO.sub x (numO.mul (numO.div y z) u))) (q3 : ∀ c x, Q c x → Q (c + 1) x)
 (hA : ∀ i j, i < n → j < n → Q 0 (A i j)) (qd : Nat → Cq → Prop) (d0 : ∀ x, Q n x → qd 0 x) (d1 : ∀ j x a, qd j x → Q n a → qd (j + 1) (numO.mul x a)) (dk : ∀ j x, j < n → qd j x → okN x) :
 a00 prog S07 #[p.v] V fun v V' => ∃ (r : NumV) (e : Int), v = .tuple #[r.val, .int .i64 e] ∧ match (elim numO n n A).2.2 with
  | none => e = 0 ∧ atN V' r (if n = 0 then ofN 1 else if (elim numO n n A).2.1 % 2 = 1 then K0u (p08 numO (elim numO n n A).1 (n - 1)) else p08 numO (elim numO n n A).1 (n - 1))
  | some c => ((∃ i, c ≤ i ∧ i < n ∧ (elim numO n n A).1 i c ≠ ofN 0) → e = 6) ∧ ((∀ i, c ≤ i → i < n → (elim numO n n A).1 i c = ofN 0) → e = 0 ∧ atN V' r (ofN 0)) := by
 have hpl : p.len = n := by have := h.len; rw [I00] at this; exact this
 let B := (elim numO n n A).1
 have hBQ : ∀ i j, i < n → j < n → Q n (B i j) := H07 numO Q n n q2 q3 n 0 A 0 (by omega) (by omega) hA
 refine w0b p V _
  (fun c x V' => ∃ j : Nat, x.t8 = (j : Int) + 1 ∧ j < n ∧ atN V' x.o7 (p08 numO B j) ∧ qd j (p08 numO B j)) (fun _ x _ => n - x.t8.toNat) ?_
 refine (L0u h hn).mono fun v V1 l1 hv => ⟨true, hv, fun hf => absurd hf (by simp), fun _ => ?_⟩
 have hmore : N03 5 numC V1 ⟨none, 0, 0⟩ (matL 0 n fun _ _ => Cq.zero) := s00.nil
 refine (J07 (h.le numC.le l1) hmore (by omega) (by omega) (by omega)).mono fun v m1 V3 l3 _ ⟨r2, hv, hM⟩ => ⟨r2, hv, ?_⟩
 have hM : MatR 5 numC m1 V3 r2 n n A := (show MatR 5 numC m1 V3 r2 n n _ from hM).congr fun i k hi hk => by unfold P06; rw [if_pos hk]
 refine (o06 Q hM (by omega) (by omega) q1 q2 q3 hA).mono fun v m2 V4 l4 _ ⟨hv, hM2⟩ => ⟨_, _, hv, by decide, fun V5 l5 hpub => ?_⟩
 have hRB : N03 5 numC V5 r2 (matL n n B) := hM2.known (numC.le l5) hpub
 have hr2 : r2.len = n := by have := hRB.len; rw [I00] at this; exact this
 have hr2c : r2.len ≤ r2.cap := hRB.cap
 cases hstop : (elim numO n n A).2.2 with
 | some c =>
   obtain ⟨hc, _⟩ := g07 numO n n n 0 A 0 (by omega) c hstop
   refine ⟨fun _ b3 V6 l6 hb3 b4 V7 l7 hb4 => ?_, fun hf => absurd hf (by simp)⟩
   have hld : V7.load (some (Addr.mk b3 0 none)) = some (.int .i64 (c : Int)) := by
    have := P04 (j := 0) (l7 _ _ hb3)
    simpa [Addr.add] using this
   have hzv : V7.has (some (Addr.mk b4 0 none)) (zvN).val.cells.toList := p05 (cs := (zvN).val.cells.toList) (j := 0) hb4 (fun i v hv => by rw [Nat.zero_add]; exact hv) rfl
   refine ⟨_, hld, ⟨by omega, by omega, by omega⟩, ?_⟩
   have hdr := (hRB.le numC.le (View.le_trans l6 l7)).drop (k := c) (by rw [I00]; omega)
   rw [Int.toNat_natCast, Int.toNat_natCast]
   refine (m0a hdr (by simp [I00]; omega) ⟨some (Addr.mk b3 0 none), some (Addr.mk b4 0 none)⟩ hld hzv rfl ((List.range (n - c)).map fun i => B (c + i) c) (fun i row hrow => ?_) (by simp [I00]) (fun z hz => ?_)).mono fun v V8 l8 ⟨r5, hv, hr5⟩ => ⟨r5, hv, fun ht => ?_, fun hf => ?_⟩
   · rw [List.getElem?_drop] at hrow
     have hi : c + i < n := by
      rcases Nat.lt_or_ge (c + i) n with g | g
      · exact g
      · rw [List.getElem?_eq_none (by rw [I00]; omega)] at hrow; simp at hrow
     rw [x04 hi] at hrow
     obtain rfl := Option.some.inj hrow
     exact ⟨B (c + i) c, by rw [List.getElem?_map, List.getElem?_range (by omega)]; rfl, w03 hc _⟩
   · simp only [List.mem_map, List.mem_range] at hz
     obtain ⟨i, hi, rfl⟩ := hz
     exact q1 n _ (Nat.le_refl _) (hBQ _ _ (by omega) hc)
   · refine ⟨zvN, w04 l8 hzv, rfl, zvN, 6, rfl, fun _ => rfl, fun hall => ?_⟩
     exfalso
     obtain ⟨z, hz, hne⟩ := hr5.1 ht
     simp only [List.mem_map, List.mem_range] at hz
     obtain ⟨i, hi, rfl⟩ := hz
     exact hne (hall _ (by omega) (by omega))
   · refine ⟨zvN, w04 l8 hzv, rfl, (P05 (by omega) (by omega)).mono fun v V9 l9 ⟨r6, hv, h6⟩ => ⟨r6, hv, (U0v (zvN) h6 (.inl rfl)).mono fun v V10 l10 ⟨r7, hv, h7⟩ => ⟨r7, hv, r7, 0, rfl, fun ⟨i, h1, h2, h3⟩ => ?_, fun _ => ⟨rfl, h7⟩⟩⟩⟩
     exfalso
     have : r5 = true := hr5.2 ⟨B i c, by simp only [List.mem_map, List.mem_range]; exact ⟨i - c, by omega, by rw [show c + (i - c) = i by omega]⟩, h3⟩
     rw [hf] at this; simp at this
 | none =>
   refine ⟨fun hf => absurd hf (by simp), fun _ => ?_⟩
   rw [hr2]
   refine ⟨fun h0 => ?_, fun h0 => ?_⟩
   · have e : n = 0 := by simp at h0; omega
     refine (P05 (by omega) (by omega)).mono fun v V11 l11 ⟨r8, hv, h8⟩ => ⟨r8, hv, (U0v (zvN) h8 (.inr rfl)).mono fun v V12 l12 ⟨r9, hv, h9⟩ => ⟨r9, hv, r9, 0, rfl, rfl, ?_⟩⟩
     rw [if_pos e]; exact h9
   · have hn0 : 0 < n := by simp at h0; omega
     obtain ⟨g1, s1, g2, g3⟩ := hRB.row (t := (0 : Int)) (by omega) (row := rowL n (B 0)) (x04 hn0 B)
     obtain ⟨c1, x, hxx, hxl, hh, hs⟩ := s00.get g3 (t := (0 : Int)) (by omega) (z := B 0 0) (w03 hn0 _)
     obtain ⟨y, ey, hy⟩ := elN hxx
     subst ey
     rw [hr2] at g1
     refine ⟨g1, s1, g2, c1, y, hh, hs, ⟨0, rfl, hn0, hy, d0 _ (hBQ 0 0 hn0 hn0)⟩, ?_⟩
     clear g2 g3 c1 hh hs hxx hxl
     rintro ⟨t8, o2, o7⟩ V13 l13 ⟨j, e8, hj, hd, hqd⟩
     dsimp only at e8 hd ⊢
     refine ⟨fun hlt => ?_, fun hge => ?_⟩
     · have hj1 : j + 1 < n := by simp at hlt; omega
       have et : t8.toNat = j + 1 := by omega
       obtain ⟨g1, s1, g2, g3⟩ := (hRB.le numC.le l13).row (t := t8) (by omega) (row := rowL n (B (j + 1))) (by rw [et]; exact x04 hj1 B)
       obtain ⟨c1, x, hxx, hxl, hh, hs⟩ := s00.get g3 (t := t8) (by omega) (z := B (j + 1) (j + 1)) (by rw [et]; exact w03 hj1 _)
       obtain ⟨y1, ey, hy1⟩ := elN hxx
       subst ey
       rw [hr2] at g1
       have qa := hBQ (j + 1) (j + 1) hj1 hj1
       refine ⟨g1, s1, g2, c1, y1, hh, hs, (mulN hd hy1 (dk j _ (by omega) hqd) (q1 n _ (Nat.le_refl _) qa)).mono fun v V14 l14 ⟨r10, hv, h10⟩ => ⟨r10, hv, ?_⟩⟩
       rw [i64w (by omega) (by omega)]
       exact ⟨⟨j + 1, by omega, hj1, h10, d1 j _ _ hqd qa⟩, by omega⟩
     · have hj1 : j = n - 1 := by simp at hge; omega
       subst hj1
       have htm : Int.tmod (((elim numO n n A).2.1 : Nat) : Int) 2 = (((elim numO n n A).2.1 % 2 : Nat) : Int) := by rw [Int.tmod_eq_emod_of_nonneg (by omega)]; rfl
       rw [htm]
       refine ⟨fun ho => ?_, fun ho => ?_⟩
       · have e : (elim numO n n A).2.1 % 2 = 1 := by simp at ho; omega
         refine (negN hd).mono fun v V15 l15 ⟨r11, hv, h11⟩ => ⟨r11, hv, r11, 0, rfl, rfl, ?_⟩
         rw [if_neg (by omega), if_pos e]; exact h11
       · have e : ¬ (elim numO n n A).2.1 % 2 = 1 := by simp at ho; omega
         refine ⟨o7, 0, rfl, rfl, ?_⟩
         rw [if_neg (by omega), if_neg e]; exact hd

def Xb (T : Nat) : Nat → Nat
 | 0 => 0
 | j + 1 => max (Xb T j) (4 * (T + j * (T + Xb T j + 2)) + 8)
theorem Y0v {T : Nat} : ∀ {j n : Nat}, j ≤ n → Xb T j ≤ Xb T n
 | j, 0, h => by have : j = 0 := by omega
                 subst this; exact Nat.le_refl _
 | j, n + 1, h => by
   by_cases e : j = n + 1
   · subst e; exact Nat.le_refl _
   · exact Nat.le_trans (Y0v (j := j) (n := n) (by omega)) (Nat.le_max_left _ _)
theorem X0t {n T : Nat} (h : T + n * (T + Xb T n + 2) ≤ 2 ^ 36) (hX : Xb T n ≤ 2 ^ 36) :
 X0v n (fun z => z.sz ≤ T) (fun j i s => s.sz ≤ T + i * (T + Xb T j + 2)) (fun j x => x.sz ≤ Xb T j) := by
 refine ⟨fun j x _ hx => by rw [Nat.zero_mul]; exact hx, fun j i s a x hj hi hs ha hx => ?_, fun j s a hj hs ha => ?_, fun j x _ hx => Nat.le_trans hx (Nat.le_max_left _ _), fun x hx => ?_, fun j i s hj hi hs => ?_, fun j x hj hx => ?_⟩
 · have h1 := O04 a x
   have h2 := S0f s (a * x)
   show (s - a * x).sz ≤ _
   rw [Nat.add_mul, Nat.one_mul]; omega
 · have hd : (s.div a).sz ≤ 4 * (T + j * (T + Xb T j + 2)) + 8 := Q0n hs (by
     have : 0 ≤ j * (T + Xb T j + 2) := Nat.zero_le _
     omega)
   exact Nat.le_trans hd (Nat.le_max_right _ _)
 · unfold okN; omega
 · have h1 := Y0v (T := T) (j := j) (n := n) (by omega)
   have h2 : i * (T + Xb T j + 2) ≤ n * (T + Xb T n + 2) := Nat.mul_le_mul (by omega) (by omega)
   unfold okN; omega
 · have h1 := Y0v (T := T) (j := j) (n := n) hj
   unfold okN; omega
def qN (S : Nat) (c : Nat) (z : Cq) : Prop := z.sz + 2 ≤ (S + 2) * 6 ^ c
theorem qN_2 {S : Nat} (c : Nat) (x y z u : Cq) (hx : qN S c x) (hy : qN S c y) (hz : qN S c z) (hu : qN S c u) : qN S (c + 1) (numO.sub x (numO.mul (numO.div y z) u)) := by
 unfold qN at *
 rw [Nat.pow_succ]
 have e : (S + 2) * (6 ^ c * 6) = ((S + 2) * 6 ^ c) * 6 := by rw [Nat.mul_assoc]
 rw [e]
 generalize (S + 2) * 6 ^ c = T at *
 have h1 : (y.div z).sz ≤ 4 * (T - 2) + 8 := Q0n (by omega) (by omega)
 have h2 := O04 (y.div z) u
 have h3 := S0f x (y.div z * u)
 show (x - y.div z * u).sz + 2 ≤ _
 omega
theorem qN_3 {S : Nat} (c : Nat) (x : Cq) (hx : qN S c x) : qN S (c + 1) x := by
 unfold qN at *
 rw [Nat.pow_succ]
 have e : (S + 2) * (6 ^ c * 6) = ((S + 2) * 6 ^ c) * 6 := by rw [Nat.mul_assoc]
 omega
theorem qN_1 {S n : Nat} (h : (S + 2) * 6 ^ n ≤ 2 ^ 36) (c : Nat) (x : Cq) (hc : c ≤ n) (hx : qN S c x) : okN x := by
 unfold qN at hx
 have : (S + 2) * 6 ^ c ≤ (S + 2) * 6 ^ n := Nat.mul_le_mul_left _ (Nat.pow_le_pow_right (by omega) hc)
 unfold okN; omega
def augN (n : Nat) (A : Nat → Nat → Cq) (b : Nat → Cq) : Nat → Nat → Cq := P06 A n fun _ i => b i
theorem U0m {V : View} {p q : Sl} {n : Nat} {A : Nat → Nat → Cq} {b : Nat → Cq} (S : Nat) (h : N03 5 numC V p (matL n n A)) (hb : g0b V q (rowL n b)) (hn : n ≤ 32) (hA : ∀ i j, i < n → j < n → (A i j).sz ≤ S) (hB : ∀ i, i < n → (b i).sz ≤ S)
 (hS : (S + 2) * 6 ^ n + n * ((S + 2) * 6 ^ n + Xb ((S + 2) * 6 ^ n) n + 2) ≤ 2 ^ 36) (hX : Xb ((S + 2) * 6 ^ n) n ≤ 2 ^ 36) :
 a00 prog Y06 #[p.v, q.v] V fun v V' => ∃ r : Sl, match (elim numO n (n + 1) (augN n A b)).2.2 with
  | none => v = .tuple #[r.v, .int .i64 0] ∧ g0b V' r (rowL n (t04 numO Cq.zero (elim numO n (n + 1) (augN n A b)).1 n n)) ∧ ∀ i, i < n → (t04 numO Cq.zero (elim numO n (n + 1) (augN n A b)).1 n n i).sz ≤ Xb ((S + 2) * 6 ^ n) n
  | some _ => v = .tuple #[r.v, .int .i64 6] ∧ r = ⟨none, 0, 0⟩ := by
 have q0 : ∀ {z : Cq}, z.sz ≤ S → qN S 0 z := fun hz => by unfold qN; rw [Nat.pow_zero]; omega
 have qT : ∀ {z : Cq}, qN S n z → z.sz ≤ (S + 2) * 6 ^ n := fun hz => by unfold qN at hz; omega
 have hk := X0t (T := (S + 2) * 6 ^ n) hS hX
 have hk' : X0v n (qN S n) (fun j i s => s.sz ≤ (S + 2) * 6 ^ n + i * ((S + 2) * 6 ^ n + Xb ((S + 2) * 6 ^ n) j + 2)) (fun j x => x.sz ≤ Xb ((S + 2) * 6 ^ n) j) :=
  ⟨fun j x hj hx => hk.r0 j x hj (qT hx), fun j i s a x hj hi hs ha hx => hk.r1 j i s a x hj hi hs (qT ha) hx, fun j s a hj hs ha => hk.r2 j s a hj hs (qT ha), hk.r3, fun x hx => hk.k1 x (qT hx), hk.k2, hk.k3⟩
 have hok : ∀ c x, c ≤ n → qN S c x → okN x := qN_1 (by omega)
 refine (D0c h hb hn (qN S) hok qN_2 qN_3 (fun i j hi hj => q0 (hA i j hi hj)) (fun i hi => q0 (hB i hi)) _ _ hk').mono fun v V' _ ⟨r, hr⟩ => ⟨r, ?_⟩
 unfold augN
 cases e : (elim numO n (n + 1) (P06 A n fun _ i => b i)).2.2 with
 | some c => rw [e] at hr; exact hr
 | none =>
   rw [e] at hr
   refine ⟨hr.1, hr.2, fun i hi => ?_⟩
   have hBQ : ∀ i j, i < n → j < n + 1 → qN S n ((elim numO n (n + 1) (P06 A n fun _ i => b i)).1 i j) := H07 numO (qN S) n (n + 1) qN_2 qN_3 n 0 _ 0 (by omega) (by omega) fun i j hi hj => by
    show qN S 0 (if j < n then A i j else b i)
    split
    · exact q0 (hA i j hi (by assumption))
    · exact q0 (hB i hi)
   have key : ∀ j, j ≤ n → ∀ i, n - j ≤ i → i < n → (t04 numO Cq.zero (elim numO n (n + 1) (P06 A n fun _ i => b i)).1 n j i).sz ≤ Xb ((S + 2) * 6 ^ n) j := by
    intro j
    induction j with
    | zero => intro _ i h1 h2; omega
    | succ j ih =>
      intro hj i h1 h2
      have ih := ih (by omega)
      simp only [t04]
      by_cases e : i = n - (j + 1)
      · rw [if_pos e]
        refine hk'.r2 j _ _ (by omega) ?_ (hBQ _ _ (by omega) (by omega))
        have bs : ∀ k, k ≤ j → (q0c numO (elim numO n (n + 1) (P06 A n fun _ i => b i)).1 (t04 numO Cq.zero (elim numO n (n + 1) (P06 A n fun _ i => b i)).1 n j) (n - (j + 1)) n k).sz ≤ (S + 2) * 6 ^ n + k * ((S + 2) * 6 ^ n + Xb ((S + 2) * 6 ^ n) j + 2) := by
         intro k
         induction k with
         | zero => intro _; exact hk'.r0 j _ (by omega) (hBQ _ _ (by omega) (by omega))
         | succ k ihk => intro hkj; exact hk'.r1 j k _ _ _ (by omega) (by omega) (ihk (by omega)) (hBQ _ _ (by omega) (by omega)) (ih _ (by omega) (by omega))
        exact bs j (Nat.le_refl j)
      · rw [if_neg e]; exact hk'.r3 j _ (by omega) (ih i (by omega) h2)
   exact key n (Nat.le_refl n) i (by omega) hi
theorem n0s {V : View} {p : Sl} {n : Nat} {A : Nat → Nat → Cq} (S : Nat) (h : N03 5 numC V p (matL n n A)) (hn : n ≤ 32) (hA : ∀ i j, i < n → j < n → (A i j).sz ≤ S) (hS : (n + 1) * ((S + 2) * 6 ^ n + 1) ≤ 2 ^ 36) :
 a00 prog S07 #[p.v] V fun v V' => ∃ (r : NumV) (e : Int) (z : Cq), v = .tuple #[r.val, .int .i64 e] ∧ e = 0 ∧ n02 V' r z ∧ z.sz ≤ (n + 1) * ((S + 2) * 6 ^ n + 1) ∧
  z = match (elim numO n n A).2.2 with
   | none => if n = 0 then Cq.one else if (elim numO n n A).2.1 % 2 = 1 then -p08 numO (elim numO n n A).1 (n - 1) else p08 numO (elim numO n n A).1 (n - 1)
   | some _ => Cq.zero := by
 have q0 : ∀ {z : Cq}, z.sz ≤ S → qN S 0 z := fun hz => by unfold qN; rw [Nat.pow_zero]; omega
 have qT : ∀ {z : Cq}, qN S n z → z.sz ≤ (S + 2) * 6 ^ n := fun hz => by unfold qN at hz; omega
 have hT : (S + 2) * 6 ^ n ≤ (n + 1) * ((S + 2) * 6 ^ n + 1) := by
  have := Nat.mul_le_mul_right ((S + 2) * 6 ^ n + 1) (show 1 ≤ n + 1 by omega)
  omega
 have hok : ∀ c x, c ≤ n → qN S c x → okN x := qN_1 (by omega)
 have hm : ∀ j, j < n → (j + 1) * ((S + 2) * 6 ^ n + 1) ≤ (n + 1) * ((S + 2) * 6 ^ n + 1) := fun j hj => Nat.mul_le_mul_right _ (by omega)
 have hd1 : ∀ (j : Nat) (x a : Cq), x.sz ≤ (j + 1) * ((S + 2) * 6 ^ n + 1) → qN S n a → (numO.mul x a).sz ≤ (j + 1 + 1) * ((S + 2) * 6 ^ n + 1) := by
  intro j x a hx ha
  have h1 := O04 x a
  have h2 := qT ha
  rw [Nat.add_mul (j + 1), Nat.one_mul]
  show (x * a).sz ≤ _
  omega
 have hd0 : ∀ x, qN S n x → x.sz ≤ (0 + 1) * ((S + 2) * 6 ^ n + 1) := fun x hx => by have := qT hx; omega
 have hBQ : ∀ i j, i < n → j < n → qN S n ((elim numO n n A).1 i j) := H07 numO (qN S) n n qN_2 qN_3 n 0 _ 0 (by omega) (by omega) fun i j hi hj => q0 (hA i j hi hj)
 have hds : ∀ j, j < n → (p08 numO (elim numO n n A).1 j).sz ≤ (j + 1) * ((S + 2) * 6 ^ n + 1) := by
  intro j
  induction j with
  | zero => intro hj; exact hd0 _ (hBQ 0 0 hj hj)
  | succ j ih => intro hj; exact hd1 j _ _ (ih (by omega)) (hBQ _ _ hj hj)
 refine (f0e h hn (qN S) hok qN_2 qN_3 (fun i j hi hj => q0 (hA i j hi hj)) (fun j x => x.sz ≤ (j + 1) * ((S + 2) * 6 ^ n + 1)) hd0 hd1 (fun j x hj hx => by have := hm j hj; unfold okN; omega)).mono fun v V' _ ⟨r, e, hv, hr⟩ => ⟨r, e, ?_⟩
 cases hst : (elim numO n n A).2.2 with
 | none =>
   rw [hst] at hr
   refine ⟨_, hv, hr.1, hr.2, ?_, rfl⟩
   by_cases h0 : n = 0
   · rw [if_pos h0]
     have e1 := (Rep.ofInt 1).sz (k := 1) (by decide) (by decide) (by decide)
     have e2 : (ofN 1) = ⟨((1 : Int) : Rat), 0⟩ := rfl
     rw [e2]
     have : 1 ≤ (n + 1) * ((S + 2) * 6 ^ n + 1) := Nat.le_trans (by omega : 1 ≤ (S + 2) * 6 ^ n + 1) (Nat.le_mul_of_pos_left _ (by omega))
     omega
   · rw [if_neg h0]
     have := hds (n - 1) (by omega)
     have := hm (n - 1) (by omega)
     split
     · show (-_ : Cq).sz ≤ _
       rw [O0c]; omega
     · omega
 | some c =>
   rw [hst] at hr
   obtain ⟨hc, hcl⟩ := g07 numO n n n 0 A 0 (by omega) c hst
   have := hr.2 fun i h1 h2 => by
    have := u0f.1 (hcl i h1 h2)
    exact this
   refine ⟨_, hv, this.1, this.2, ?_, rfl⟩
   have := S04
   have e2 : ofN 0 = Cq.zero := rfl
   rw [e2]
   have : 1 ≤ (n + 1) * ((S + 2) * 6 ^ n + 1) := Nat.le_trans (by omega : 1 ≤ (S + 2) * 6 ^ n + 1) (Nat.le_mul_of_pos_left _ (by omega))
   omega

theorem Q0d {V : View} {s : Sl} {a : Nat} (hs : F01 V s a) (ha : wn a ≤ 2 ^ 45) :
 a00 prog X0q #[s.v] V fun v V' => v = .int .i64 (bl a : Nat) := by
 have hsl := hs.len
 have hwn : wn a = s.len := by simp only [wn]; exact hsl.symm
 refine x0p s V _ ⟨fun h => ?_, fun h => ?_⟩
 · have h : (s.len : Int) = 0 := by simpa using h
   have : a = 0 := o05.1 (by omega)
   subst this; rfl
 · have h : ¬ (s.len : Int) = 0 := by simpa using h
   have ha0 : a ≠ 0 := by rintro rfl; rw [k09] at hwn; omega
   rw [i64w (n := (s.len : Int) - 1) (by omega) (by omega)]
   have e : Int.toNat ((s.len : Int) - 1) = wn a - 1 := by omega
   refine ⟨⟨by omega, by omega, hs.isSome (by omega)⟩, _, hs.get (by omega) (by omega), ?_⟩
   rw [e]
   have hw := (j06 a).getD (wn a - 1)
   refine (g0a hw).mono fun v V' _ hv => ⟨_, hv, ?_⟩
   have h2 := F0x ha0
   have h3 : bl ((dig a).getD (wn a - 1) 0) ≤ 32 := by
    have h3 := (Q0a ha0).2.2
    have := c0e h3
    have := (Nat.pow_lt_pow_iff_right (a := 2) (n := bl ((dig a).getD (wn a - 1) 0) - 1) (m := 32) (by omega)).1 (by omega)
    omega
   rw [i64w (n := 32 * _) (by omega) (by omega), i64w (by omega) (by omega)]
   congr 1
   omega

def quo (n d : Nat) (l : Int) : Nat := n * 2 ^ (max (-l) 0).toNat / (d * 2 ^ (max l 0).toNat)
theorem M0u (a b : Int) : (if a > b then a else b) = max a b := by split <;> omega
theorem Z0v {t : Nat} (h : t ≤ 2045) (h' : t ≠ 2045) : t * 2 ^ 52 + 2 ^ 53 < infR := by unfold infR; omega
theorem a0w {t m : Nat} (h : t ≤ 2045) (hm : m ≤ 2 ^ 53) (h' : m ≠ 2 ^ 53) : t * 2 ^ 52 + m < infR := by unfold infR; omega
theorem Y0t {L : Int} {t : Nat} (h : (t : Int) = L + 1074) (h2 : L ≠ 971) : t ≠ 2045 := by omega
theorem S0n {L : Int} {t : Nat} (h : (t : Int) = L + 1074) (h2 : t ≤ 2045) : -1074 ≤ L ∧ L ≤ 2 ^ 40 := by omega
structure Rnd (way : Int) (r n d : Nat) : Prop where
 down : way = 0 → s05 r n d
 up : way = 1 → IsUp r n d
 any : s05 r n d ∨ IsUp r n d
theorem I0h {V : View} {sn sd : Sl} {n d : Nat} (way : Int) (hn : F01 V sn n) (hd : F01 V sd d) (d0 : 0 < d) (zn : bl n ≤ 2 ^ 30) (zd : bl d ≤ 2 ^ 30) :
 a00 prog M09 #[(w08.mk 53 (-1074) 1023).val, sn.v, sd.v, .int .i64 way] V fun v _ => ∃ r : Nat, v = .float .f64 r ∧ Rnd way r n d := by
 have wn44 : wn n ≤ 2 ^ 43 := n0f (by omega)
 have wd44 : wn d ≤ 2 ^ 43 := n0f (by omega)
 refine s0i (w08.mk 53 (-1074) 1023) sn sd way V _ (fun _ x _ => Mag n d x.t9 ∧ -(2 ^ 31 : Int) ≤ x.t9 ∧ x.t9 ≤ 2 ^ 31)
  (fun c x _ => ∃ i : Nat, x.t82 = i ∧ i ≤ c.t80.len ∧ x.t14 = ((wval ((dig (quo n d c.t10)).take i) : Nat) : Int)) (fun c x _ => (c.t81 - x.t82).toNat)
  (fun c x _ => ∃ m r t : Nat, x.t14 = m ∧ m ≤ 2 ^ 53 ∧ (t : Int) = c.t10 + 1074 ∧ t ≤ 2045 ∧ r = t * 2 ^ 52 + m ∧ rm r = m * 2 ^ t ∧ Rnd way r n d)
  (fun c _ _ => ∃ m r t : Nat, c.t14 = m ∧ m ≤ 2 ^ 53 ∧ (t : Int) = c.t10 + 1074 ∧ t ≤ 2045 ∧ r < infR ∧ r = t * 2 ^ 52 + m ∧ rm r = m * 2 ^ t ∧ Rnd way r n d) ?_
 refine ⟨fun h0 => ?_, fun h0 => ?_⟩
 · have hl : sn.len = 0 := by have : (sn.len : Int) = 0 := (by simpa using h0); omega
   have n0 : n = 0 := hn.len_zero.1 hl
   subst n0
   refine ⟨0, rfl, fun _ => s05.zero d0, fun _ => IsUp.zero _, .inr (IsUp.zero _)⟩
 have hl : sn.len ≠ 0 := by have : ¬ (sn.len : Int) = 0 := (by simpa using h0); omega
 have n0 : n ≠ 0 := fun e => hl (hn.len_zero.2 e)
 refine (Q0d hn (Nat.le_trans wn44 (by decide))).mono fun v V1 l1 hv => ⟨_, hv, ?_⟩
 refine (Q0d (hd.le l1) (Nat.le_trans wd44 (by decide))).mono fun v V2 l2 hv => ⟨_, hv, ?_⟩
 have hn2 := hn.le (View.le_trans l1 l2)
 have hd2 := hd.le (View.le_trans l1 l2)
 have w0 : i64.wrap ((bl n : Nat) - (bl d : Nat) : Int) = (bl n : Int) - bl d := i64w (by omega) (by omega)
 have w1 : i64.wrap (0 - ((bl n : Int) - bl d)) = (bl d : Int) - bl n := by rw [i64w (by omega) (by omega)]; omega
 rw [w0, w1, M0u, M0u]
 obtain ⟨A, hA⟩ : ∃ A : Nat, (A : Int) = max 0 ((bl d : Int) - bl n) := ⟨(max 0 ((bl d : Int) - bl n)).toNat, by omega⟩
 obtain ⟨B, hB⟩ : ∃ B : Nat, (B : Int) = max 0 ((bl n : Int) - bl d) := ⟨(max 0 ((bl n : Int) - bl d)).toNat, by omega⟩
 rw [← hA, ← hB]
 have hmag := S0h (n := n) (d := d) (x := bl n) (y := bl d) (A := A) (B := B) (c0e n0) (b0e n) (c0e (by omega)) (b0e d) (g0f n0) (g0f (by omega)) (by omega)
 refine ⟨?_, ?_⟩
 · refine (X03 hn2 (Nat.le_trans wn44 (by decide)) (by omega)).mono fun v V4 l4 ⟨s1, hv, hs1⟩ => ⟨s1, hv, ?_⟩
   refine (X03 (hd2.le l4) (Nat.le_trans wd44 (by decide)) (by omega)).mono fun v V5 l5 ⟨s2, hv, hs2⟩ => ⟨s2, hv, ?_⟩
   have wb : wn (n * 2 ^ A) ≤ 2 ^ 50 := n0f (by
    have a1 := G0d n (2 ^ A)
    have a2 := q07 A
    omega)
   refine (M06 (hs1.le l5) hs2 wb).mono fun v V6 l6 hv => ⟨_, hv, fun hc => ?_, fun hc => ?_⟩
   · simp only [decide_eq_true_eq] at hc
     have lt : n * 2 ^ A < d * 2 ^ B := by
      rcases Nat.lt_or_ge (n * 2 ^ A) (d * 2 ^ B) with g | g
      · exact g
      · exfalso; rw [if_neg (by omega)] at hc; split at hc <;> omega
     have e : i64.wrap ((bl n : Int) - bl d - 1) = (B : Int) - A - 1 := by rw [i64w (by omega) (by omega)]; omega
     show Mag n d (i64.wrap _) ∧ _ ≤ (i64.wrap _ : Int) ∧ (i64.wrap _ : Int) ≤ _
     rw [e]; exact ⟨hmag.1 lt, by omega, by omega⟩
   · simp only [decide_eq_false_iff_not] at hc
     have ge : d * 2 ^ B ≤ n * 2 ^ A := by
      rcases Nat.lt_or_ge (n * 2 ^ A) (d * 2 ^ B) with g | g
      · exfalso; rw [if_pos g] at hc; omega
      · exact g
     have e : (bl n : Int) - bl d = (B : Int) - A := by omega
     show Mag n d ((bl n : Int) - bl d) ∧ _ ≤ ((bl n : Int) - bl d) ∧ ((bl n : Int) - bl d) ≤ _
     rw [e]; exact ⟨hmag.2 ge, by omega, by omega⟩
 rintro ⟨e⟩ V3 l3 ⟨hM, he1, he2⟩
 have hM : Mag n d e := hM
 have he1 : -(2 ^ 31 : Int) ≤ e := he1
 have he2 : e ≤ (2 ^ 31 : Int) := he2
 dsimp only
 refine ⟨fun hc => ?_, fun hc => ?_⟩
 · simp only [decide_eq_true_eq] at hc
   have hov := hM.over (by omega)
   have hrm : rm (infR - 1) = (2 ^ 53 - 1) * 2 ^ 2045 := M0w (r := infR - 1) (e := 2045) (by decide)
   refine ⟨fun hw => ⟨by omega, ?_⟩, fun hw => ?_⟩
   · have hw : way = 0 := by simpa using hw
     have k1 : u64.wrap (u64.wrap (1 * 2 ^ (min (Int.toNat 53) (IntKind.bits .u64))) - 1) = ((2 ^ 53 - 1 : Nat) : Int) := by decide
     have k2 : i64.wrap (i64.wrap (1023 - 53) + 1) = 971 := by decide
     rw [k1, k2]
     have k3 : (971 + 1074 : Int).toNat = 2045 := by decide
     refine (F0h (n := 2 ^ 53 - 1) (r := infR - 1) (s := 971) (by omega) (by omega) (by omega) (by omega) (by decide) (by rw [k3]; exact hrm)).mono fun v V7 _ hv => ⟨_, hv, _, rfl, ?_⟩
     have hD : s05 (infR - 1) n d := ⟨by decide, Nat.le_trans (Nat.mul_le_mul_right d (Z09.2 (by omega))) hov, .inl (by decide)⟩
     exact ⟨fun _ => hD, fun h => by omega, .inl hD⟩
   · have hw : way ≠ 0 := by simpa using hw
     refine b0s.mono fun v V8 _ hv => ⟨_, hv, _, rfl, ?_⟩
     have hU : IsUp infR n d := ⟨Nat.le_refl _, .inl rfl, .inr (Nat.lt_of_lt_of_le (Nat.mul_lt_mul_of_pos_right (D0k (by decide)) d0) hov)⟩
     exact ⟨fun h => absurd h hw, fun _ => hU, .inr hU⟩
 · simp only [decide_eq_false_iff_not] at hc
   have k0 : i64.wrap (i64.wrap (e - 53) + 1) = e - 52 := by
    rw [i64w (n := e - 53) (by omega) (by omega), i64w (by omega) (by omega)]; omega
   obtain ⟨L, hL⟩ : ∃ L, L = max (e - 52) (-1074) := ⟨_, rfl⟩
   have kL : (if (-1074 : Int) > e - 52 then (-1074 : Int) else e - 52) = L := by split <;> omega
   rw [k0, kL]
   have k1 : i64.wrap (0 - L) = -L := by rw [i64w (by omega) (by omega)]; omega
   rw [k1]
   obtain ⟨a, ha⟩ : ∃ a : Nat, (a : Int) = max (-L) 0 := ⟨(max (-L) 0).toNat, by omega⟩
   obtain ⟨b, hb⟩ : ∃ b : Nat, (b : Int) = max L 0 := ⟨(max L 0).toNat, by omega⟩
   obtain ⟨t, ht⟩ : ∃ t : Nat, (t : Int) = L + 1074 := ⟨(L + 1074).toNat, by omega⟩
   have kb : (if (0 : Int) > L then (0 : Int) else L) = (b : Int) := by split <;> omega
   have ka : (if (0 : Int) > -L then (0 : Int) else -L) = (a : Int) := by split <;> omega
   rw [kb, ka]
   have hquo : quo n d L = n * 2 ^ a / (d * 2 ^ b) := by
    unfold quo
    have e1 : (max (-L) 0).toNat = a := by omega
    have e2 : (max L 0).toNat = b := by omega
    rw [e1, e2]
   obtain ⟨hq53, hq52, ht5, hr0, hdown, hup0, hup1, hr1⟩ := i0d d0 hM (by omega) hL ha hb rfl ht
   rw [← hquo] at hq53 hq52 hr0 hdown hup0 hup1 hr1
   have bn : bl (n * 2 ^ a) ≤ 2 ^ 31 := by
    have a1 := G0d n (2 ^ a)
    have a2 := q07 a
    omega
   have bd : bl (d * 2 ^ b) ≤ 2 ^ 31 := by
    have a1 := G0d d (2 ^ b)
    have a2 := q07 b
    omega
   have hub : 0 < d * 2 ^ b := Nat.mul_pos d0 (c0a b)
   refine (X03 (hd2.le l3) (Nat.le_trans wd44 (by decide)) (by omega)).mono fun v V9 l9 ⟨u, hv, hu⟩ => ⟨u, hv, ?_⟩
   refine (X03 (hn2.le (View.le_trans l3 l9)) (Nat.le_trans wn44 (by decide)) (by omega)).mono fun v V10 l10 ⟨s, hv, hs⟩ => ⟨s, hv, ?_⟩
   refine (O06 hs (hu.le l10) (n0f (by omega)) (by omega)).mono fun v V11 l11 ⟨q, r, hv, hq, hr⟩ => ⟨q, r, hv, ⟨0, rfl, by omega, by simp [wval]⟩, ?_⟩
   rw [← hquo] at hq
   generalize hQ : quo n d L = Q at hq53 hq52 hr0 hdown hup0 hup1 hr1 hq
   have hql : q.len = (dig Q).length := hq.len
   have hq2 : q.len ≤ 2 := by
    have : wn Q ≤ 2 := n0f (by have : bl Q ≤ 53 := L04 hq53; omega)
    simp only [wn] at this; omega
   rintro ⟨y, i'⟩ V12 l12 ⟨i, hi, hil, hy⟩
   have hi : i' = (i : Int) := hi
   have hil : i ≤ q.len := hil
   have hy : y = ((wval ((dig Q).take i) : Nat) : Int) := hy
   subst hi; subst hy
   dsimp only
   have hwl : ∀ j, j ≤ q.len → wval ((dig Q).take j) < 4294967296 ^ j := by
    intro j hj
    have := e0f (l := (dig Q).take j) (fun d hd => j06 Q d (List.mem_of_mem_take hd))
    rw [List.length_take, Nat.min_eq_left (by omega)] at this
    exact this
   refine ⟨fun hlt => ?_, fun hge => ?_⟩
   · simp only [decide_eq_true_eq] at hlt
     have hi' : i < q.len := by omega
     have w32 : i64.wrap (32 * (i : Int)) = ((32 * i : Nat) : Int) := by rw [i64w (by omega) (by omega)]; omega
     rw [w32]
     refine ⟨⟨by omega, by omega, hq.isSome (by omega)⟩, _, (hq.le l12).get (by omega) (by omega), by omega, ?_⟩
     rw [Int.toNat_natCast, Int.toNat_natCast]
     have hg := (j06 Q).getD i
     generalize hwd : (dig Q).getD i 0 = w at hg
     have hyl := hwl i (by omega)
     have hyl2 := hwl (i + 1) (by omega)
     rw [E01, hwd] at hyl2
     generalize hyy : wval ((dig Q).take i) = y at hyl hyl2
     have e4 : 4294967296 ^ i = 2 ^ (32 * i) := by rw [show (4294967296 : Nat) = 2 ^ 32 from rfl, ← Nat.pow_mul]
     have hmin : min (32 * i) u64.bits = 32 * i := Nat.min_eq_left (by show 32 * i ≤ 64; omega)
     have hpow : (2 : Int) ^ (32 * i) = ((2 ^ (32 * i) : Nat) : Int) := by rw [Int.natCast_pow]; rfl
     have hle : 4294967296 ^ (i + 1) ≤ 18446744073709551616 := by
      have : 4294967296 ^ (i + 1) ≤ 4294967296 ^ 2 := Nat.pow_le_pow_right (by omega) (by omega)
      omega
     have hor := Nat.two_pow_add_eq_or_of_lt (i := 32 * i) (b := y) (by rw [← e4]; exact hyl) w
     rw [← e4] at hor
     have hval : u64.wrap (BitVec.toNat ((BitVec.ofInt u64.bits (y : Int)) ||| (BitVec.ofInt u64.bits (u64.wrap ((u64.wrap (w : Int)) * 2 ^ (min (32 * i) (IntKind.bits .u64))))))) = ((y + w * 4294967296 ^ i : Nat) : Int) := by
      have hw64 : w * 4294967296 ^ i < 2 ^ 64 := by omega
      rw [hmin, hpow, ← e4, s09 (y := w) (by omega), ← Int.natCast_mul, s09 hw64, e0s (by omega) hw64]
      congr 1
      rw [Nat.or_comm, Nat.mul_comm w, ← hor]; omega
     rw [hval]
     refine ⟨⟨i + 1, ?_, by show i + 1 ≤ q.len; omega, ?_⟩, ?_⟩
     · show i64.wrap ((i : Int) + 1) = ((i + 1 : Nat) : Int)
       rw [i64w (by omega) (by omega)]; omega
     · show ((y + w * 4294967296 ^ i : Nat) : Int) = ((wval ((dig Q).take (i + 1)) : Nat) : Int)
       rw [E01, hwd, hyy]
     · show ((q.len : Int) - i64.wrap ((i : Int) + 1)).toNat < ((q.len : Int) - (i : Int)).toNat
       rw [i64w (by omega) (by omega)]; omega
   · simp only [decide_eq_false_iff_not] at hge
     have hiq : wval ((dig Q).take i) = Q := by rw [p02 (by omega), M02]
     rw [hiq]
     have hr12 := hr.le l12
     have hrb : n * 2 ^ a % (d * 2 ^ b) < d * 2 ^ b := Nat.mod_lt _ hub
     have hwr : wn (n * 2 ^ a % (d * 2 ^ b)) ≤ 2 ^ 43 := Nat.le_trans (B0b (Nat.le_of_lt hrb)) (n0f (by omega))
     refine (X03 (n := 1) hr12 (Nat.le_trans hwr (by decide)) (by omega)).mono fun v V13 l13 ⟨s2, hv, hs2⟩ => ⟨s2, hv, ?_⟩
     have hw2 : wn (n * 2 ^ a % (d * 2 ^ b) * 2 ^ 1) ≤ 2 ^ 50 := by
      have := S09 (n * 2 ^ a % (d * 2 ^ b)) (2 ^ 1)
      have : wn (2 ^ 1) ≤ 2 ^ 43 := wn64 (by omega)
      omega
     refine (M06 hs2 (hu.le (View.le_trans l10 (View.le_trans l11 (View.le_trans l12 l13)))) hw2).mono fun v V14 l14 hv => ⟨_, hv, ?_⟩
     have hrz : r.len = 0 ↔ n * 2 ^ a % (d * 2 ^ b) = 0 := hr.len_zero
     have qs : Rnd way (t * 2 ^ 52 + Q) n d → (∃ m r t' : Nat, (Q : Int) = m ∧ m ≤ 2 ^ 53 ∧ (t' : Int) = L + 1074 ∧ t' ≤ 2045 ∧ r = t' * 2 ^ 52 + m ∧ rm r = m * 2 ^ t' ∧ Rnd way r n d) :=
      fun h => ⟨Q, _, t, rfl, by omega, ht, ht5, rfl, hr0, h⟩
     have ps : Rnd way (t * 2 ^ 52 + Q + 1) n d → (∃ m r t' : Nat, u64.wrap ((Q : Int) + 1) = m ∧ m ≤ 2 ^ 53 ∧ (t' : Int) = L + 1074 ∧ t' ≤ 2045 ∧ r = t' * 2 ^ 52 + m ∧ rm r = m * 2 ^ t' ∧ Rnd way r n d) :=
      fun h => ⟨Q + 1, t * 2 ^ 52 + Q + 1, t, by rw [u64w (by omega) (by omega)]; omega, by omega, ht, ht5, by omega, hr1, h⟩
     have notup : way ≠ 1 → Rnd way (t * 2 ^ 52 + Q) n d := fun h => ⟨fun _ => hdown, fun e => absurd e h, .inl hdown⟩
     have near : way ≠ 1 → way ≠ 0 → Rnd way (t * 2 ^ 52 + Q + 1) n d ∨ n * 2 ^ a % (d * 2 ^ b) = 0 := by
      intro h h'
      by_cases z : n * 2 ^ a % (d * 2 ^ b) = 0
      · exact .inr z
      · exact .inl ⟨fun e => absurd e h', fun e => absurd e h, .inr (hup1 z)⟩
     refine ⟨⟨fun hw => ?_, fun hw => ?_⟩, ?_⟩
     · have hw : way = 1 := by simpa using hw
       refine ⟨fun hz => ?_, fun hz => ?_⟩
       · simp only [decide_eq_true_eq] at hz
         have z : n * 2 ^ a % (d * 2 ^ b) ≠ 0 := fun z => by have := hrz.2 z; rw [this] at hz; simp at hz
         exact ps ⟨fun h => absurd (h.symm.trans hw : (0 : Int) = 1) (by decide), fun _ => hup1 z, .inr (hup1 z)⟩
       · simp only [decide_eq_false_iff_not] at hz
         have z0 : r.len = 0 := by generalize r.len = k at hz; omega
         have z := hrz.1 z0
         have g := qs ⟨fun h => absurd (h.symm.trans hw : (0 : Int) = 1) (by decide), fun _ => hup0 z, .inl hdown⟩
         refine ⟨fun h => ?_, fun _ => g⟩
         have h : way = 2 := by simpa using h
         exact absurd (h.symm.trans hw : (2 : Int) = 1) (by decide)
     · have hw : way ≠ 1 := by simpa using hw
       have g := qs (notup hw)
       refine ⟨fun h2 => ?_, fun _ => g⟩
       have h2 : way = 2 := by simpa using h2
       have h20 : way ≠ 0 := fun e => absurd (h2.symm.trans e : (2 : Int) = 0) (by decide)
       have pz : n * 2 ^ a % (d * 2 ^ b) ≠ 0 → (∃ m r t' : Nat, u64.wrap ((Q : Int) + 1) = m ∧ m ≤ 2 ^ 53 ∧ (t' : Int) = L + 1074 ∧ t' ≤ 2045 ∧ r = t' * 2 ^ 52 + m ∧ rm r = m * 2 ^ t' ∧ Rnd way r n d) :=
        fun z => ps ⟨fun e => absurd e h20, fun e => absurd e hw, .inr (hup1 z)⟩
       -- a half is more than nothing
       have cmpz : n * 2 ^ a % (d * 2 ^ b) = 0 → (if n * 2 ^ a % (d * 2 ^ b) * 2 ^ 1 < d * 2 ^ b then (-1 : Int) else if n * 2 ^ a % (d * 2 ^ b) * 2 ^ 1 = d * 2 ^ b then 0 else 1) = -1 := by
        intro z; rw [z, Nat.zero_mul, if_pos hub]
       refine ⟨fun h3 => pz fun z => ?_, fun h3 => ⟨fun h4 => ⟨fun h5 => pz fun z => ?_, fun _ => g⟩, fun _ => g⟩⟩
       · rw [cmpz z] at h3; simp at h3
       · rw [cmpz z] at h4; simp at h4
     rintro ⟨x⟩ V15 l15 ⟨m, r, t', hx, hm, ht', ht5', hr', hrm', hR⟩
     have hx : x = (m : Int) := hx
     subst hx
     dsimp only at ht' ⊢
     have htt : t' = t := by have e := ht'.trans ht.symm; exact Int.ofNat.inj e
     subst htt
     have k53 : u64.wrap (1 * 2 ^ (min (Int.toNat 53) (IntKind.bits .u64))) = ((2 ^ 53 : Nat) : Int) := by decide
     have k971 : i64.wrap (i64.wrap (1023 - 53) + 1) = 971 := by decide
     rw [k53, k971]
     refine ⟨⟨by omega, fun h1 => ⟨fun h2 => ?_, fun h2 => ?_⟩, fun h1 => ?_⟩, ?_⟩
     · have h1 : m = 2 ^ 53 := Int.ofNat.inj (by simpa using h1)
       have h2 : L = 971 := by simpa using h2
       have hri : r = infR := by
        rw [hr', h1]
        have : t' = 2045 := by rw [h2] at ht'; exact Int.ofNat.inj ht'
        rw [this]; decide
       refine b0s.mono fun v V17 _ hv => ⟨_, hv, r, by rw [hri], hR⟩
     · have h1 : m = 2 ^ 53 := Int.ofNat.inj (by simpa using h1)
       have h2 : L ≠ 971 := by simpa using h2
       refine ⟨m, r, t', rfl, hm, ht', ht5', ?_, hr', hrm', hR⟩
       rw [hr', h1]
       exact Z0v ht5' (Y0t ht' h2)
     · have h1 : m ≠ 2 ^ 53 := fun e => by rw [e] at h1; simp at h1
       refine ⟨m, r, t', rfl, hm, ht', ht5', ?_, hr', hrm', hR⟩
       rw [hr']
       exact a0w ht5' hm h1
     rintro _ V16 l16 ⟨m', r', t2, hm1, hm2, ht2, ht3, hri, hre, hrm2, hR2⟩
     have hm1 : (m : Int) = m' := hm1
     have hmm : m = m' := Int.ofNat.inj hm1
     subst hmm
     have ht2 : (t2 : Int) = L + 1074 := ht2
     by_cases m0 : m = 0
     · subst m0
       have r0 : r' = 0 := J0w (by rw [hrm2, Nat.zero_mul, f0d])
       refine Y0p.mono fun v V18 _ hv => ⟨_, hv, r', by rw [r0], hR2⟩
     · refine (F0h (n := m) (s := L) (r := r') m0 hm2 (S0n ht2 ht3).1 (S0n ht2 ht3).2 hri ?_).mono fun v V18 _ hv => ⟨_, hv, r', rfl, hR2⟩
       · rw [← ht2, Int.toNat_natCast]; exact hrm2

theorem k0l (r : Nat) : j04 (r : Int) = r := by unfold j04; rw [if_neg (by omega)]; omega
theorem o0s {r : Nat} (h : 0 < r) : j04 (-(r : Int)) = 2 ^ 63 + r := by unfold j04; rw [if_pos (by omega)]; omega
theorem Z0p {V : View} {sn sd : Sl} {n d : Nat} {w : Int} {R : Nat → Prop} (_ : n ≠ 0) (_ : 0 < d)
 (h : a00 prog M09 #[(w08.mk 53 (-1074) 1023).val, sn.v, sd.v, .int .i64 w] V fun v _ => ∃ r : Nat, v = .float .f64 r ∧ (s05 r n d ∨ IsUp r n d) ∧ R r) {Q : Value → View → Prop}
 (k : ∀ r V', R r → r ≤ infR → (0 < r → Q (.float .f64 (2 ^ 63 + r)) V') ∧ (r = 0 → Q (.float .f64 0) V')) :
 a00 prog M09 #[(w08.mk 53 (-1074) 1023).val, sn.v, sd.v, .int .i64 w] V fun v V2 => ∃ r2 : Nat, v = .float .f64 r2 ∧
  ((FloatKind.f64.format.order r2 0 != some .eq) = true → Q (.float .f64 (Op.negFloat .f64 r2)) V2) ∧ ((FloatKind.f64.format.order r2 0 != some .eq) = false → Q (.float .f64 0) V2) := by
 refine h.mono fun v V2 _ ⟨r, hv, hd, hR⟩ => ⟨r, hv, ?_⟩
 have hr : r ≤ infR := by
  rcases hd with h | h
  · exact Nat.le_of_lt h.lt
  · exact h.le
 have hr63 : r < 2 ^ 63 := by unfold infR at hr; omega
 have hok : okW r := ⟨by omega, by rw [Nat.mod_eq_of_lt hr63]; exact hr⟩
 have hkey : key r = (r : Int) := g0l hr63
 have k0 : key 0 = 0 := by decide
 have e : (FloatKind.f64.format.order r 0 != some .eq) = !decide ((r : Int) = 0) := by
  show (!(FloatKind.f64.format.order r 0 == some .eq)) = _
  rw [G0k hok (by decide), hkey, k0]
 rw [e]
 obtain ⟨k1, k2⟩ := k r V2 hR hr
 refine ⟨fun h1 => ?_, fun h1 => ?_⟩
 · have h1 : r ≠ 0 := fun c => by subst c; simp at h1
   rw [m09 (by omega), if_pos hr63, Nat.add_comm]
   exact k1 (by omega)
 · have h1 : r = 0 := by
     by_cases c : r = 0
     · exact c
     · rw [decide_eq_false (by omega)] at h1; simp at h1
   exact k2 h1
theorem K0f {V : View} {x : WhV} {s : Sl} {A : Int} {D : Nat} {way : Int} (hw : way = 0 ∨ way = 1) (hx : N04 V x A) (hs : F01 V s D) (D0 : 0 < D) (zA : bl A.natAbs ≤ 2 ^ 30) (zD : bl D ≤ 2 ^ 30) :
 a00 prog g0i #[(w08.mk 53 (-1074) 1023).val, x.val, s.v, .int .i64 way] V fun v _ =>
  v = .float .f64 (j04 (if 0 ≤ A then (if way = 0 then (E0b A.natAbs D : Int) else (upK A.natAbs D : Int)) else (if way = 0 then -(upK A.natAbs D : Int) else -(E0b A.natAbs D : Int)))) := by
 refine n0g (w08.mk 53 (-1074) 1023) x s way V _ ⟨fun h => ?_, fun h => ?_⟩
 · have hA : 0 ≤ A := by rw [hx.1] at h; simpa using h
   refine (I0h way hx.2 hs D0 zA zD).mono fun v V1 _ ⟨r, hv, hR⟩ => ⟨r, hv, ?_⟩
   rw [if_pos hA]
   rcases hw with rfl | rfl
   · rw [if_pos rfl, (hR.down rfl).unique D0 (q06 D0), k0l]
   · rw [if_neg (by decide), (hR.up rfl).unique D0 (o09 D0), k0l]
 · have hA : A < 0 := by rw [hx.1] at h; simpa using h
   have n0 : A.natAbs ≠ 0 := by omega
   have hnA : ¬ 0 ≤ A := by omega
   refine ⟨fun _ => ?_, fun h2 => ?_⟩
   · have hw2 : i64.wrap (1 - way) = 1 - way := i64w (by omega) (by omega)
     rw [hw2, if_neg hnA]
     refine Z0p (Q := fun v _ => v = .float .f64 (j04 (if way = 0 then -(upK A.natAbs D : Int) else -(E0b A.natAbs D : Int)))) (R := fun r => Rnd (1 - way) r A.natAbs D) n0 D0 ((I0h (1 - way) hx.2 hs D0 zA zD).mono fun v V1 _ ⟨r, hv, hR⟩ => ⟨r, hv, hR.any, hR⟩) fun r V' hR hr => ?_
     have hrv : (r : Int) = if way = 0 then (upK A.natAbs D : Int) else (E0b A.natAbs D : Int) := by
      rcases hw with rfl | rfl
      · rw [if_pos rfl, (hR.up (by decide)).unique D0 (o09 D0)]
      · rw [if_neg (by decide), (hR.down (by decide)).unique D0 (q06 D0)]
     have e : (if way = 0 then -(upK A.natAbs D : Int) else -(E0b A.natAbs D : Int)) = -(r : Int) := by
      rw [hrv]; split <;> rfl
     rw [e]
     refine ⟨fun h0 => ?_, fun h0 => ?_⟩
     · rw [o0s h0]
     · rw [h0]; rfl
   · exfalso
     have h2 : way = 2 := by simpa using h2
     omega
theorem T0n (z : Cq) : z.re.num * (z.D : Int) = z.A * (z.re.den : Int) := by
 have h := z.canon.rep
 have h1 : ((z.re.num : Int) : Rat) / ((z.re.den : Nat) : Rat) = (z.A : Rat) / (z.D : Rat) := by
  rw [← h.re, ← Rat.mkRat_eq_div]; exact Rat.mkRat_self z.re
 exact (m02 z.re.den_nz h.pos).1 h1
theorem f0j (z : Cq) : 0 ≤ z.A ↔ 0 ≤ z.re.num := by
 have h := T0n z
 have h1 : (0 : Int) < (z.D : Int) := by have := z.canon.rep.pos; omega
 have h2 : (0 : Int) < (z.re.den : Int) := by have := z.re.den_nz; omega
 constructor
 · intro g
   refine Int.not_lt.1 fun c => ?_
   have a := Int.mul_neg_of_neg_of_pos c h1
   have b := Int.mul_nonneg g (Int.le_of_lt h2)
   omega
 · intro g
   refine Int.not_lt.1 fun c => ?_
   have a := Int.mul_neg_of_neg_of_pos c h2
   have b := Int.mul_nonneg g (Int.le_of_lt h1)
   omega
theorem N0u (z : Cq) : z.A.natAbs * z.re.den = z.re.num.natAbs * z.D := by
 have h := congrArg Int.natAbs (T0n z)
 rw [Int.natAbs_mul, Int.natAbs_mul, Int.natAbs_natCast, Int.natAbs_natCast] at h
 exact h.symm
theorem p0s (z : Cq) : E0b z.A.natAbs z.D = E0b z.re.num.natAbs z.re.den := by
 have d1 : 0 < z.D := by have := z.canon.rep.pos; omega
 have d2 : 0 < z.re.den := by have := z.re.den_nz; omega
 exact ((q06 d1).congr d1 d2 (N0u z)).unique d2 (q06 d2)
theorem j0x (z : Cq) : upK z.A.natAbs z.D = upK z.re.num.natAbs z.re.den := by
 have d1 : 0 < z.D := by have := z.canon.rep.pos; omega
 have d2 : 0 < z.re.den := by have := z.re.den_nz; omega
 exact ((o09 d1).congr d1 d2 (N0u z)).unique d2 (o09 d2)
theorem L0f {V : View} : a00 prog T0j #[] V fun v _ => v = (w08.mk 53 (-1074) 1023).val := p0i V _ rfl
theorem a0q {V : View} {x : NumV} {z : Cq} (hx : n02 V x z) (hz : z.sz ≤ 2 ^ 30) : a00 prog Y0l #[x.val] V fun v _ => v = .float .f64 (j04 (u09 z.re)) := by
 have zA := z.szA; have zD := z.szD
 refine i0k x V _ (L0f.mono fun v V1 l1 hv => ⟨_, hv, (T01 (hx.le l1)).mono fun v V2 l2 ⟨s, hv, hs⟩ => ⟨s, hv, ?_⟩⟩)
 refine (K0f (way := 0) (.inl rfl) ((hx.le (View.le_trans l1 l2)).re) hs (by have := z.canon.rep.pos; omega) (by omega) (by omega)).mono fun v V3 _ hv => ⟨_, hv, ?_⟩
 unfold u09
 rw [p0s z, j0x z]
 by_cases c : 0 ≤ z.A
 · rw [if_pos c, if_pos ((f0j z).1 c), if_pos rfl]
 · rw [if_neg c, if_neg (fun g => c ((f0j z).2 g)), if_pos rfl]
theorem J0h {V : View} {x : NumV} {z : Cq} (hx : n02 V x z) (hz : z.sz ≤ 2 ^ 30) : a00 prog Z0l #[x.val] V fun v _ => v = .float .f64 (j04 (k0b z.re)) := by
 have zA := z.szA; have zD := z.szD
 refine j0k x V _ (L0f.mono fun v V1 l1 hv => ⟨_, hv, (T01 (hx.le l1)).mono fun v V2 l2 ⟨s, hv, hs⟩ => ⟨s, hv, ?_⟩⟩)
 refine (K0f (way := 1) (.inr rfl) ((hx.le (View.le_trans l1 l2)).re) hs (by have := z.canon.rep.pos; omega) (by omega) (by omega)).mono fun v V3 _ hv => ⟨_, hv, ?_⟩
 unfold k0b
 rw [p0s z, j0x z]
 by_cases c : 0 ≤ z.A
 · rw [if_pos c, if_pos ((f0j z).1 c), if_neg (by decide)]
 · rw [if_neg c, if_neg (fun g => c ((f0j z).2 g)), if_neg (by decide)]

theorem Y0a (a b : Rat) : (⟨a, 0⟩ : Cq) * ⟨b, 0⟩ = ⟨a * b, 0⟩ := Cq.ext' (by rw [L01]; grind) (by rw [Q01]; grind)
theorem u0d (a b : Rat) : (⟨a, 0⟩ : Cq) + ⟨b, 0⟩ = ⟨a + b, 0⟩ := Cq.ext' (by rw [H01]) (by rw [I01]; grind)
theorem T0h (a : Rat) : -(⟨a, 0⟩ : Cq) = ⟨-a, 0⟩ := Cq.ext' (by rw [g05]) (by rw [i05]; grind)
theorem k0x (x : Nat) : fq x = fkq (key x) := rfl
theorem b0w : fq 0 = 0 := by
 unfold fq
 have : kz (key 0) = 0 := by decide
 rw [this]; rw [Rat.div_def]; exact Rat.zero_mul _
structure BdAt (V : View) (b : BdV) (e : Eb) : Prop where
 inf : b.inf = e.inf
 num : n02 V b.x e.num
 ok : e.ok
theorem BdAt.le {V V' : View} {b : BdV} {e : Eb} (hle : V.le V') (h : BdAt V b e) : BdAt V' b e := ⟨h.inf, h.num.le hle, h.ok⟩
theorem BdAt.range {V : View} {b : BdV} {e : Eb} (h : BdAt V b e) : e.inf = 0 ∨ e.inf = 1 ∨ e.inf = -1 := by
 rcases h.ok with h | ⟨_, h⟩
 · exact .inl h
 · exact .inr h
theorem BdAt.zero (V : View) : BdAt V (BdV.mk 0 (NumV.mk (WhV.mk false (Sl.mk none 0 0)) (WhV.mk false (Sl.mk none 0 0)) (Sl.mk none 0 0))) (Eb.fin 0) := ⟨rfl, n02.zero V, .inl rfl⟩
theorem BdAt.infty (V : View) {i : Int} (h : i = 1 ∨ i = -1) : BdAt V (BdV.mk i (NumV.mk (WhV.mk false (Sl.mk none 0 0)) (WhV.mk false (Sl.mk none 0 0)) (Sl.mk none 0 0))) ⟨i, 0⟩ := ⟨rfl, n02.zero V, .inr ⟨rfl, h⟩⟩
theorem BdAt.signs (V : View) {i : Int} (h : (⟨i, 0⟩ : Eb).ok) : BdAt V (BdV.mk i (NumV.mk (WhV.mk false (Sl.mk none 0 0)) (WhV.mk false (Sl.mk none 0 0)) (Sl.mk none 0 0))) ⟨i, 0⟩ := ⟨rfl, n02.zero V, h⟩
theorem q0s {r : Nat} (h : r ≤ infR) : rm r < 2 ^ 2099 := by
 have h1 : rm r ≤ rm infR := Z09.2 h
 obtain ⟨e, he⟩ : ∃ e, e = 2046 := ⟨_, rfl⟩
 rw [H0i he] at h1
 exact Nat.lt_of_le_of_lt h1 (z0r (a := 52 + e) (b := 2099) (by omega))
theorem s0s (D : Nat) : (0 : Rat) = ((0 : Int) : Rat) / (D : Rat) := by simp [Rat.div_def]
theorem l0x {k : Int} (h : inK k) : (⟨fkq k, 0⟩ : Cq).sz ≤ 2100 := by
 have R : Rep ⟨fkq k, 0⟩ (kz k) 0 (2 ^ 1074) := ⟨k0s, rfl, s0s _⟩
 have hk : (kz k).natAbs = rm k.natAbs := by unfold kz; split <;> omega
 refine R.sz ?_ (by simp [U09]) ?_
 · rw [hk]
   have h2 : k.natAbs ≤ infR := by unfold inK at h; omega
   have := L04 (q0s h2)
   omega
 · have := q07 1074; omega
theorem m0d {k : Int} (h : inK k) : (endE k).num.sz ≤ 2100 := by
 have z : (Cq.zero).sz ≤ 2100 := Nat.le_trans S04 (by omega)
 unfold endE Eb.num
 split
 · exact z
 · split
   · exact z
   · exact l0x h
theorem W0m {V : View} {x : Nat} (h : finW x) : a00 prog d0m #[.float .f64 x] V fun v V' => ∃ r : NumV, v = r.val ∧ n02 V' r ⟨fkq (key x), 0⟩ := by
 refine o0k x V _ ((i0l (c := CxV.mk x 0) h (show finW 0 from ⟨by decide, by decide⟩)).mono fun v V1 _ ⟨r, hv, hr⟩ => ⟨r, 0, hv, r, rfl, ?_⟩)
 have hr : n02 V1 r ⟨fq x, fq 0⟩ := hr
 rw [b0w, k0x] at hr; exact hr
theorem U0n {V : View} {x : Nat} (h : okW x) : a00 prog T0q #[.float .f64 x] V fun v V' => ∃ b : BdV, v = b.val ∧ BdAt V' b (endE (key x)) := by
 have hk := a0s h
 refine D0p x V _ ((M0n h.1).mono fun v V1 _ hv => ⟨_, hv, fun hc => ?_, fun hc => ?_⟩)
 · have hc : key x = (infR : Int) := by simp only [decide_eq_true_eq] at hc; exact hc.2
   refine ⟨_, rfl, ?_⟩
   unfold endE; rw [if_pos hc]; exact .infty V1 (.inl rfl)
 have hc : key x ≠ (infR : Int) := by simp only [decide_eq_false_iff_not] at hc; exact fun e => hc ⟨h, e⟩
 refine (E0h h.1).mono fun v V2 _ hv => ⟨_, hv, fun hd => ?_, fun hd => ?_⟩
 · have hd : key x = -(infR : Int) := by simp only [decide_eq_true_eq] at hd; exact hd.2
   refine ⟨_, rfl, ?_⟩
   unfold endE; rw [if_neg hc, if_pos hd]; exact .infty V2 (.inr rfl)
 have hd : key x ≠ -(infR : Int) := by simp only [decide_eq_false_iff_not] at hd; exact fun e => hd ⟨h, e⟩
 have hf : finW x := by
  refine ⟨h.1, ?_⟩
  have a := E0i h.1
  have : (key x).natAbs < infR := by omega
  omega
 refine (W0m hf).mono fun v V3 _ ⟨r, hv, hr⟩ => ⟨r, hv, _, rfl, ?_⟩
 unfold endE; rw [if_neg hc, if_neg hd]; exact ⟨rfl, hr, .inl rfl⟩
theorem S0d {V : View} (a b : Int) : a00 prog d0c #[.int .i64 a, .int .i64 b] V fun v _ => v = .int .i64 (cmpZ a b) := by
 have nan : ∀ {V : View} (a : Int), a00 prog Z0d #[.int .i64 a] V fun v _ => v = .bool false := fun a => b0d a _ _ (by simp)
 refine x0b a b V _ ((nan a).mono fun v V1 _ hv => ⟨_, hv, (nan b).mono fun v V2 _ hv => ⟨_, hv, fun h => absurd h (by simp), fun _ => ⟨fun h => absurd h (by simp), fun _ => ⟨fun h => ?_, fun h => ⟨fun h' => ?_, fun h' => ?_⟩⟩⟩⟩⟩)
 · rw [o0r (by simpa using h)]
 · rw [q0r (by simpa using h')]
 · simp only [decide_eq_false_iff_not] at h h'
   rw [p0r (by omega)]
theorem c0w (x y : Rat) : (⟨x, 0⟩ : Cq).cmp ⟨y, 0⟩ = cmpR x y := by
 unfold Cq.cmp
 dsimp only
 by_cases c : cmpR x y = 0
 · rw [c]; rw [if_neg (by simp)]; unfold cmpR; rw [if_neg (by grind), if_pos rfl]
 · rw [if_pos c]
theorem Q04 {V : View} {a b : BdV} {e f : Eb} (ha : BdAt V a e) (hb : BdAt V b f) (hz : e.num.sz ≤ 2 ^ 40) (hw : f.num.sz ≤ 2 ^ 40) :
 a00 prog T0l #[a.val, b.val] V fun v _ => v = .int .i64 (e.cmp f) := by
 have ia := ha.inf
 have ib := hb.inf
 refine p0k a b V _ ⟨fun h => ?_, fun h => ⟨fun h' => ?_, fun h' => ?_⟩⟩
 · have h : e.inf ≠ 0 := by rw [← ia]; simpa using h
   refine (S0d a.inf b.inf).mono fun v V1 _ hv => ⟨_, hv, ?_⟩
   unfold Eb.cmp; rw [if_pos (.inl h), ia, ib]
 · have h' : f.inf ≠ 0 := by rw [← ib]; simpa using h'
   refine (S0d a.inf b.inf).mono fun v V1 _ hv => ⟨_, hv, ?_⟩
   unfold Eb.cmp; rw [if_pos (.inr h'), ia, ib]
 · have h : e.inf = 0 := by rw [← ia]; simpa using h
   have h' : f.inf = 0 := by rw [← ib]; simpa using h'
   refine (c0l ha.num hb.num hz hw).mono fun v V1 _ hv => ⟨_, hv, ?_⟩
   unfold Eb.cmp; rw [if_neg (by rw [h, h']; simp)]
   exact congrArg _ (c0w e.x f.x)
theorem X0m : (Eb.fin 0).num.sz ≤ 1 := S04
theorem F04 {V : View} {a : BdV} {e : Eb} (ha : BdAt V a e) (hz : e.num.sz ≤ 2 ^ 40) : a00 prog K09 #[a.val] V fun v _ => v = .int .i64 e.sign :=
 w0i a V _ ((Q04 ha (BdAt.zero V) hz (Nat.le_trans X0m (by decide))).mono fun v V1 _ hv => ⟨_, hv, rfl⟩)
theorem q08 {V : View} {a : BdV} {e : Eb} (ha : BdAt V a e) : a00 prog X0l #[a.val] V fun v V' => ∃ b : BdV, v = b.val ∧ BdAt V' b e.neg := by
 refine q0k a V _ ((i0a ha.num).mono fun v V1 _ ⟨r, hv, hr⟩ => ⟨r, hv, _, rfl, ?_⟩)
 have ia := ha.inf
 have hr' := ha.range
 have e1 : i64.wrap (0 - a.inf) = -e.inf := by rw [i64w (by omega) (by omega)]; omega
 refine ⟨e1, ?_, Eb.neg_ok ha.ok⟩
 have : -e.num = e.neg.num := T0h e.x
 rw [← this]; exact hr
theorem n0b {V : View} {a b : BdV} {e f : Eb} (ha : BdAt V a e) (hb : BdAt V b f) (hz : e.num.sz ≤ 2 ^ 40) (hw : f.num.sz ≤ 2 ^ 40) :
 a00 prog b0m #[a.val, b.val] V fun v V' => ∃ c : BdV, v = c.val ∧ BdAt V' c (e.add f) := by
 have ia := ha.inf
 have ib := hb.inf
 refine s0k a b V _ ⟨fun h => ?_, fun h => ⟨fun h' => ?_, fun h' => ?_⟩⟩
 · have h : e.inf ≠ 0 := by rw [← ia]; simpa using h
   refine ⟨a, rfl, ?_⟩
   unfold Eb.add; rw [if_pos h]; exact ha
 · have h : e.inf = 0 := by rw [← ia]; simpa using h
   have h' : f.inf ≠ 0 := by rw [← ib]; simpa using h'
   refine ⟨b, rfl, ?_⟩
   unfold Eb.add; rw [if_neg (by rw [h]; simp), if_pos h']; exact hb
 · have h : e.inf = 0 := by rw [← ia]; simpa using h
   have h' : f.inf = 0 := by rw [← ib]; simpa using h'
   refine (b08 ha.num hb.num hz hw).mono fun v V1 _ ⟨r, hv, hr⟩ => ⟨r, hv, _, rfl, ?_⟩
   unfold Eb.add; rw [if_neg (by rw [h]; simp), if_neg (by rw [h']; simp)]
   refine ⟨rfl, ?_, .inl rfl⟩
   have : e.num + f.num = (⟨0, e.x + f.x⟩ : Eb).num := u0d e.x f.x
   rw [← this]; exact hr
theorem w06 {V : View} {a b : BdV} {e f : Eb} (ha : BdAt V a e) (hb : BdAt V b f) (hz : e.num.sz ≤ 2 ^ 40) (hw : f.num.sz ≤ 2 ^ 40) :
 a00 prog a0m #[a.val, b.val] V fun v V' => ∃ c : BdV, v = c.val ∧ BdAt V' c (e.mul f) := by
 have ia := ha.inf
 have ib := hb.inf
 have key : ¬ (e.inf = 0 ∧ f.inf = 0) → ∀ {W : View}, V.le W → a00 prog K09 #[a.val] W fun v V2 => ∃ r2 : Int, v = .int .i64 r2 ∧ a00 prog K09 #[b.val] V2 fun v V3 => ∃ r3 : Int, v = .int .i64 r3 ∧
  ∃ c : BdV, (BdV.mk (i64.wrap (r2 * r3)) (NumV.mk (WhV.mk false (Sl.mk none 0 0)) (WhV.mk false (Sl.mk none 0 0)) (Sl.mk none 0 0))).val = c.val ∧ BdAt V3 c (e.mul f) := by
  intro hn W hle
  refine (F04 (ha.le hle) hz).mono fun v V2 l2 hv => ⟨_, hv, (F04 (hb.le (View.le_trans hle l2)) hw).mono fun v V3 _ hv => ⟨_, hv, _, rfl, ?_⟩⟩
  have r1 : e.sign = -1 ∨ e.sign = 0 ∨ e.sign = 1 := Eb.cmp_range _ _
  have r2 : f.sign = -1 ∨ f.sign = 0 ∨ f.sign = 1 := Eb.cmp_range _ _
  have hm := Eb.mul_ok e f
  unfold Eb.mul at hm ⊢
  rw [if_neg hn] at hm ⊢
  have : i64.wrap (e.sign * f.sign) = e.sign * f.sign := by
   rcases r1 with r1 | r1 | r1 <;> rcases r2 with r2 | r2 | r2 <;> rw [r1, r2] <;> decide
  rw [this]; exact .signs V3 hm
 refine t0k a b V _ ⟨fun h => ⟨fun h' => ?_, fun h' => ?_⟩, fun h => ?_⟩
 · have h : e.inf = 0 := by rw [← ia]; simpa using h
   have h' : f.inf = 0 := by rw [← ib]; simpa using h'
   refine (Q05 ha.num hb.num hz hw).mono fun v V1 _ ⟨r, hv, hr⟩ => ⟨r, hv, _, rfl, ?_⟩
   unfold Eb.mul; rw [if_pos ⟨h, h'⟩]
   refine ⟨rfl, ?_, .inl rfl⟩
   have : e.num * f.num = (⟨0, e.x * f.x⟩ : Eb).num := Y0a e.x f.x
   rw [← this]; exact hr
 · have h' : f.inf ≠ 0 := by rw [← ib]; simpa using h'
   exact key (fun g => h' g.2) (View.le_refl V)
 · have h : e.inf ≠ 0 := by rw [← ia]; simpa using h
   exact key (fun g => h g.1) (View.le_refl V)
theorem T0a (e : Eb) : e.neg.num.sz = e.num.sz := by
 have : -e.num = e.neg.num := T0h e.x
 rw [← this]; exact O0c _
theorem K0h (e f : Eb) : (e.add f).num.sz ≤ e.num.sz + f.num.sz + 1 := by
 unfold Eb.add; split
 · omega
 · split
   · omega
   · have : e.num + f.num = (⟨0, e.x + f.x⟩ : Eb).num := u0d e.x f.x
     rw [← this]; exact x0a _ _
theorem U0a (e f : Eb) : (e.mul f).num.sz ≤ e.num.sz + f.num.sz + 1 := by
 unfold Eb.mul; split
 · have : e.num * f.num = (⟨0, e.x * f.x⟩ : Eb).num := Y0a e.x f.x
   rw [← this]; exact O04 _ _
 · exact Nat.le_trans S04 (by omega)
def bdC (V : View) (x : List Value) (e : Eb) : Prop := ∃ b : BdV, x = b.val.cells.toList ∧ BdAt V b e
theorem bdC.le {V V' : View} (hle : V.le V') (x : List Value) (e : Eb) (h : bdC V x e) : bdC V' x e := by
 obtain ⟨b, e1, hb⟩ := h; exact ⟨b, e1, hb.le hle⟩
def y0g (V : View) (s : Sl) (es : List Eb) : Prop := s00 6 bdC V s es
theorem y0g.le {V V' : View} (hle : V.le V') {s : Sl} {es : List Eb} (h : y0g V s es) : y0g V' s es := s00.le (bdC.le hle) hle h
theorem b0q {V : View} {a b : BdV} {e f : Eb} {p : Option Addr} {way : Int} (ha : BdAt V a e) (hb : BdAt V b f) (hz : e.num.sz ≤ 2 ^ 40) (hw : f.num.sz ≤ 2 ^ 40) (hp : V.load p = some (.int .i64 way)) :
 a00 prog U0j #[a.val, b.val, .pointer p] V fun v _ => v = .bool (decide (e.cmp f = way)) :=
 x0i a b p V _ ⟨way, hp, (Q04 ha hb hz hw).mono fun v V1 _ hv => ⟨_, hv, by
  congr 1⟩⟩
theorem F0c (way : Int) : ∀ {es : List Eb} {i : Nat} (h : i + 1 < es.length), Eb.pick way (es.take (i + 2)) = if Eb.cmp es[i + 1] (Eb.pick way (es.take (i + 1))) = way then es[i + 1] else Eb.pick way (es.take (i + 1))
 | [], _, h => by simp at h
 | e :: es, i, h => by
   have hi : i < es.length := by simpa using h
   have e1 : (e :: es).take (i + 2) = e :: es.take (i + 1) := rfl
   have e2 : (e :: es).take (i + 1) = e :: es.take i := rfl
   have e3 : es.take (i + 1) = es.take i ++ [es[i]] := by rw [List.take_add_one]; simp [hi]
   have e4 : (e :: es)[i + 1] = es[i] := rfl
   rw [e1, e2, e3, e4]
   show List.foldl _ e (es.take i ++ [es[i]]) = _
   rw [List.foldl_append]; rfl
theorem Z0t (a : Option Addr) (k : Nat) : Option.map (fun q => Addr.add q (Int.toNat (k : Int) * 6)) (Option.map (fun q => Addr.add q (Int.toNat 1 * 6)) a) = Option.map (fun q => Addr.add q ((k + 1) * 6)) a := by
 rw [Option.map_map]
 congr 1
 funext q
 show (q.add (Int.toNat 1 * 6)).add (Int.toNat (k : Int) * 6) = _
 rw [W09, Int.toNat_natCast]
 congr 1
 show 1 * 6 + k * 6 = (k + 1) * 6
 omega
theorem l0l {V : View} {s : Sl} {es : List Eb} {way : Int} (h : y0g V s es) (h0 : es ≠ []) (hn : es.length ≤ 2 ^ 32) (hS : ∀ e ∈ es, e.num.sz ≤ 2 ^ 40) :
 a00 prog W0o #[.int .i64 way, s.v] V fun v V' => ∃ b : BdV, v = b.val ∧ BdAt V' b (Eb.pick way es) := by
 have hl := h.len
 have hcap := h.cap
 have h1 : 1 ≤ es.length := by
  rcases Nat.eq_zero_or_pos es.length with c | c
  · exact absurd (List.eq_nil_of_length_eq_zero c) h0
  · exact c
 refine x0m way s V _ (fun _ x V' => ∃ i : Nat, x.t16 = i ∧ i + 1 ≤ es.length ∧ BdAt V' x.o6 (Eb.pick way (es.take (i + 1))) ∧ (Eb.pick way (es.take (i + 1))).num.sz ≤ 2 ^ 40) (fun _ x _ => (es.length - x.t16).toNat) ?_
 intro b1 V1 l1 hb1
 obtain ⟨hb, x, ⟨b0, hx, hb0⟩, _, hh, hs⟩ := s00.get (h.le l1) (t := 0) (by omega) (z := es[0]) (by simp)
 refine ⟨hb, b0, hx ▸ hh, hs, ⟨by omega, by omega, by omega⟩, ⟨0, rfl, h1, ?_, ?_⟩, ?_⟩
 · have : es.take (0 + 1) = [es[0]] := by
     cases es with
     | nil => simp at h1
     | cons e es => simp
   rw [this]; exact hb0
 · have : es.take (0 + 1) = [es[0]] := by
     cases es with
     | nil => simp at h1
     | cons e es => simp
   rw [this]; exact hS _ (List.getElem_mem _)
 rintro ⟨t, o4, o6⟩ V2 l2 ⟨i, rfl, hi, ho, hz⟩
 dsimp only at ho hz ⊢
 have hlen : ((((((s.len : Nat) : Int)).toNat - Int.toNat 1 : Nat) : Int)) = (es.length : Int) - 1 := by rw [Int.toNat_natCast, hl]; show ((es.length - 1 : Nat) : Int) = _; omega
 rw [hlen]
 refine ⟨fun hlt => ?_, fun hge => ?_⟩
 · simp only [decide_eq_true_eq] at hlt
   have hi2 : i + 1 < es.length := by omega
   have hc1 : ¬ s.cap = Int.toNat 1 := by show ¬ s.cap = 1; omega
   rw [if_neg hc1, Z0t]
   obtain ⟨hb', x', ⟨b', hx', hb''⟩, _, hh', hs'⟩ := s00.get (h.le (View.le_trans l1 l2)) (t := ((i + 1 : Nat) : Int)) (by omega) (z := es[i + 1]) (by rw [Int.toNat_natCast]; simp [hi2])
   rw [Int.toNat_natCast] at hh' hs'
   have hsm : (Option.map (fun q => Addr.add q (Int.toNat 1 * 6)) s.a).isSome = true := by
    have := hb'.2.2
    rw [Option.isSome_map]; exact this
   refine ⟨⟨by omega, by omega, hsm⟩, b', hx' ▸ hh', hs', ?_⟩
   have hp : V2.load (some (Addr.mk b1 0 none)) = some (.int .i64 way) := d02 l2 (by simp [View.load, hb1])
   refine (b0q hb'' ho (hS _ (List.getElem_mem _)) hz hp).mono fun v V3 l3 hv => ⟨_, hv, fun hc => ?_, fun hc => ?_⟩
   · simp only [decide_eq_true_eq] at hc
     rw [i64w (by omega) (by omega)]
     refine ⟨⟨i + 1, by omega, by omega, ?_, ?_⟩, by omega⟩
     · rw [F0c way hi2, if_pos hc]; exact hb''.le l3
     · rw [F0c way hi2, if_pos hc]; exact hS _ (List.getElem_mem _)
   · simp only [decide_eq_false_iff_not] at hc
     rw [i64w (by omega) (by omega)]
     refine ⟨⟨i + 1, by omega, by omega, ?_, ?_⟩, by omega⟩
     · rw [F0c way hi2, if_neg hc]; exact ho.le l3
     · rw [F0c way hi2, if_neg hc]; exact hz
 · simp only [decide_eq_false_iff_not] at hge
   have : i + 1 = es.length := by omega
   rw [this, List.take_length] at ho
   exact ⟨_, rfl, ho⟩
theorem n0d {V : View} {s : Sl} {es : List Eb} (h : y0g V s es) (h0 : es ≠ []) (hn : es.length ≤ 2 ^ 32) (hS : ∀ e ∈ es, e.num.sz ≤ 2 ^ 40) :
 a00 prog S0l #[s.v] V fun v V' => ∃ b : BdV, v = b.val ∧ BdAt V' b (Eb.pick (-1) es) :=
 u0k s V _ ((l0l h h0 hn hS).mono fun _ _ _ ⟨b, hv, hb⟩ => ⟨b, hv, b, rfl, hb⟩)
theorem t09 {V : View} {s : Sl} {es : List Eb} (h : y0g V s es) (h0 : es ≠ []) (hn : es.length ≤ 2 ^ 32) (hS : ∀ e ∈ es, e.num.sz ≤ 2 ^ 40) :
 a00 prog i0g #[s.v] V fun v V' => ∃ b : BdV, v = b.val ∧ BdAt V' b (Eb.pick 1 es) :=
 c0f s V _ ((l0l h h0 hn hS).mono fun _ _ _ ⟨b, hv, hb⟩ => ⟨b, hv, b, rfl, hb⟩)
structure EsAt (V : View) (s : SetV) (e : Es) : Prop where
 lo : BdAt V s.lo e.lo
 hi : BdAt V s.hi e.hi
theorem EsAt.le {V V' : View} {s : SetV} {e : Es} (hle : V.le V') (h : EsAt V s e) : EsAt V' s e := ⟨h.lo.le hle, h.hi.le hle⟩
def i03 (e : Es) (S : Nat) : Prop := e.lo.num.sz ≤ S ∧ e.hi.num.sz ≤ S
theorem n0a {V : View} {s : SetV} {e : Es} (h : EsAt V s e) : a00 prog K0q #[s.val] V fun v V' => ∃ r : SetV, v = r.val ∧ EsAt V' r e.neg :=
 E0p s V _ ((q08 h.hi).mono fun _ _ l1 ⟨a, hv, ha⟩ => ⟨a, hv, (q08 (h.lo.le l1)).mono fun _ _ l2 ⟨b, hv, hb⟩ => ⟨b, hv, _, rfl, ha.le l2, hb⟩⟩)
theorem o0a {V : View} {s t : SetV} {e f : Es} (h : EsAt V s e) (k : EsAt V t f) {S : Nat} (he : i03 e S) (hf : i03 f S) (hS : S ≤ 2 ^ 30) :
 a00 prog M0q #[s.val, t.val] V fun v V' => ∃ r : SetV, v = r.val ∧ EsAt V' r (e.add f) :=
 F0p s t V _ ((n0b h.lo k.lo (by have := he.1; omega) (by have := hf.1; omega)).mono fun v V1 l1 ⟨a, hv, ha⟩ => ⟨a, hv,
  (n0b (h.hi.le l1) (k.hi.le l1) (by have := he.2; omega) (by have := hf.2; omega)).mono fun v V2 l2 ⟨b, hv, hb⟩ => ⟨b, hv, _, rfl, ha.le l2, hb⟩⟩)
theorem W0n {V : View} {b : Nat} {r1 r2 r3 r4 : BdV} {e1 e2 e3 e4 : Eb} (h1 : BdAt V r1 e1) (h2 : BdAt V r2 e2) (h3 : BdAt V r3 e3) (h4 : BdAt V r4 e4)
 (hb : V b = some #[.int .i64 r1.inf, .bool r1.x.re.neg, r1.x.re.mag.v, .bool r1.x.im.neg, r1.x.im.mag.v, r1.x.under.v, .int .i64 r2.inf, .bool r2.x.re.neg, r2.x.re.mag.v, .bool r2.x.im.neg, r2.x.im.mag.v, r2.x.under.v, .int .i64 r3.inf, .bool r3.x.re.neg, r3.x.re.mag.v, .bool r3.x.im.neg, r3.x.im.mag.v, r3.x.under.v, .int .i64 r4.inf, .bool r4.x.re.neg, r4.x.re.mag.v, .bool r4.x.im.neg, r4.x.im.mag.v, r4.x.under.v]) :
 y0g V ⟨some ⟨b, 0, none⟩, 4, 4⟩ [e1, e2, e3, e4] :=
 T04 (o := r1.val.cells.toList ++ (r2.val.cells.toList ++ (r3.val.cells.toList ++ (r4.val.cells.toList ++ [])))) hb
  ⟨_, _, rfl, rfl, ⟨r1, rfl, h1⟩, _, _, rfl, rfl, ⟨r2, rfl, h2⟩, _, _, rfl, rfl, ⟨r3, rfl, h3⟩, _, _, rfl, rfl, ⟨r4, rfl, h4⟩, rfl⟩ rfl
theorem X0n {e f : Es} {S : Nat} (he : i03 e S) (hf : i03 f S) : ∀ x ∈ Es.prods e f, x.num.sz ≤ 2 * S + 1 := by
 intro x hx
 simp only [Es.prods, List.mem_cons, List.not_mem_nil, or_false] at hx
 have a := he.1; have b := he.2; have c := hf.1; have d := hf.2
 rcases hx with rfl | rfl | rfl | rfl
 · have := U0a e.lo f.lo; omega
 · have := U0a e.lo f.hi; omega
 · have := U0a e.hi f.lo; omega
 · have := U0a e.hi f.hi; omega
theorem g0j {way : Int} {es : List Eb} {S : Nat} (h0 : es ≠ []) (h : ∀ e ∈ es, e.num.sz ≤ S) : (Eb.pick way es).num.sz ≤ S := by
 cases es with
 | nil => exact absurd rfl h0
 | cons e es =>
   show (List.foldl (fun o x => if x.cmp o = way then x else o) e es).num.sz ≤ S
   rcases Eb.pick_mem way es e with g | g
   · rw [g]; exact h e (by simp)
   · exact h _ (by simp [g])
theorem c08 {V : View} {s t : SetV} {e f : Es} (h : EsAt V s e) (k : EsAt V t f) {S : Nat} (he : i03 e S) (hf : i03 f S) (hS : S ≤ 2 ^ 30) :
 a00 prog L0q #[s.val, t.val] V fun v V' => ∃ r : SetV, v = r.val ∧ EsAt V' r (e.mul f) := by
 have a := he.1; have b := he.2; have c := hf.1; have d := hf.2
 have hp := X0n he hf
 have hp40 : ∀ x ∈ Es.prods e f, x.num.sz ≤ 2 ^ 40 := fun x hx => by have := hp x hx; omega
 refine G0p s t V _ ((w06 h.lo k.lo (by omega) (by omega)).mono fun v V1 l1 ⟨r1, hv, h1⟩ => ⟨r1, hv, ?_⟩)
 refine (w06 (h.lo.le l1) (k.hi.le l1) (by omega) (by omega)).mono fun v V2 l2 ⟨r2, hv, h2⟩ => ⟨r2, hv, ?_⟩
 have L2 := View.le_trans l1 l2
 refine (w06 (h.hi.le L2) (k.lo.le L2) (by omega) (by omega)).mono fun v V3 l3 ⟨r3, hv, h3⟩ => ⟨r3, hv, ?_⟩
 have L3 := View.le_trans L2 l3
 refine (w06 (h.hi.le L3) (k.hi.le L3) (by omega) (by omega)).mono fun v V4 l4 ⟨r4, hv, h4⟩ => ⟨r4, hv, fun b1 V5 l5 _ hb1 => ?_⟩
 have g1 := h1.le (View.le_trans l2 (View.le_trans l3 l4))
 have g2 := h2.le (View.le_trans l3 l4)
 have g3 := h3.le l4
 refine (n0d (W0n (g1.le l5) (g2.le l5) (g3.le l5) (h4.le l5) hb1) (by simp) (by simp) hp40).mono fun v V6 l6 ⟨r5, hv, h5⟩ => ⟨r5, hv, fun b2 V7 l7 _ hb2 => ?_⟩
 have L7 := View.le_trans l5 (View.le_trans l6 l7)
 exact (t09 (W0n (g1.le L7) (g2.le L7) (g3.le L7) (h4.le L7) hb2) (by simp) (by simp) hp40).mono fun v V8 l8 ⟨r6, hv, h6⟩ => ⟨r6, hv, _, rfl, h5.le (View.le_trans l7 l8), h6⟩
theorem i0j {V : View} {s : SetV} {e : Es} (h : EsAt V s e) {S : Nat} (he : i03 e S) (hS : S ≤ 2 ^ 30) : a00 prog U0o #[s.val] V fun v _ => v = .bool e.zero := by
 have a := he.1; have b := he.2
 refine y0m s V _ ((F04 h.lo (by omega)).mono fun v V1 l1 hv => ⟨_, hv, fun hc => ?_, fun hc => ?_⟩)
 · refine (F04 (h.hi.le l1) (by omega)).mono fun v V2 _ hv => ⟨_, hv, ?_⟩
   unfold Es.zero; rw [hc]; rfl
 · unfold Es.zero; rw [hc]; rfl
theorem Y0n : 18442240474082181120 = j04 (-(infR : Int)) := by decide
theorem O0u : infR = j04 (infR : Int) := by decide
theorem q05 {V : View} {s : SetV} {e : Es} (h : EsAt V s e) {S : Nat} (he : i03 e S) (hS : S ≤ 2 ^ 30) : a00 prog S0o #[s.val] V fun v _ => v = (Sk.v e.span).val := by
 have a := he.1; have b := he.2
 have il := h.lo.inf
 have ih := h.hi.inf
 refine z0m s V _ (U0t.mono fun v V1 l1 hv => ⟨_, hv, b0s.mono fun v V2 l2 hv => ⟨_, hv, fun h1 => ?_, fun h1 => ?_⟩⟩)
 · have h1 : e.lo.inf = 0 := by rw [← il]; simpa using h1
   refine (a0q (h.lo.num.le (View.le_trans l1 l2)) (by omega)).mono fun v V3 l3 hv => ⟨_, hv, fun h2 => ?_, fun h2 => ?_⟩
   · have h2 : e.hi.inf = 0 := by rw [← ih]; simpa using h2
     refine (J0h (h.hi.num.le (View.le_trans l1 (View.le_trans l2 l3))) (by omega)).mono fun v V4 l4 hv => ⟨_, hv, ?_⟩
     unfold Es.span Sk.v; rw [if_pos h1, if_pos h2]; rfl
   · have h2 : e.hi.inf ≠ 0 := by rw [← ih]; simpa using h2
     unfold Es.span Sk.v; rw [if_pos h1, if_neg h2, ← O0u]; rfl
 · have h1 : e.lo.inf ≠ 0 := by rw [← il]; simpa using h1
   refine ⟨fun h2 => ?_, fun h2 => ?_⟩
   · have h2 : e.hi.inf = 0 := by rw [← ih]; simpa using h2
     refine (J0h (h.hi.num.le (View.le_trans l1 l2)) (by omega)).mono fun v V4 l4 hv => ⟨_, hv, ?_⟩
     unfold Es.span Sk.v; rw [if_neg h1, if_pos h2, ← Y0n]; rfl
   · have h2 : e.hi.inf ≠ 0 := by rw [← ih]; simpa using h2
     unfold Es.span Sk.v; rw [if_neg h1, if_neg h2, ← O0u, ← Y0n]

theorem W0a {V : View} {x : Nat} (h : okW x) : a00 prog W0l #[.float .f64 x] V fun v _ => v = .float .f64 (j04 (key x)) := by
 have z0 : okW 0 := ⟨by decide, by decide⟩
 have k0 : key 0 = 0 := by decide
 refine l0k x V _ ⟨fun hc => ?_, fun hc => ?_⟩
 · rw [G0k h z0, k0] at hc
   have hc : key x = 0 := by simpa using hc
   rw [hc]; rfl
 · rw [G0k h z0, k0] at hc
   have hc : ¬ key x = 0 := by simpa using hc
   have : j04 (key x) = x := y0r h.1 (by rintro rfl; exact hc (by decide))
   rw [this]
theorem G0c {V : View} {x y : Nat} (hx : x < 2 ^ 64) (hy : y < 2 ^ 64) : a00 prog g0g #[.float .f64 x, .float .f64 y] V fun v _ => v = .tuple #[(mkS x y).v.val, .int .i64 (mkE x y)] := by
 have bad : ∀ {e : Int}, mkE x y = e → e ≠ 0 → (Value.tuple #[(SpV.mk 0 0).val, .int .i64 e]) = .tuple #[(mkS x y).v.val, .int .i64 (mkE x y)] := by
  intro e he h0
  unfold mkS; rw [he, if_neg h0, f0u]
 refine a0f x y V _ ((S0a hx).mono fun v V1 _ hv => ⟨_, hv, fun hc => ?_, fun hc => ?_⟩)
 · have hc : ¬ okW x := by simpa using hc
   exact bad (by unfold mkE; rw [if_pos (.inl hc)]) (by decide)
 have h1 : okW x := by simpa using hc
 refine (S0a hy).mono fun v V2 _ hv => ⟨_, hv, fun hc => ?_, fun hc => ?_⟩
 · have hc : ¬ okW y := by simpa using hc
   exact bad (by unfold mkE; rw [if_pos (.inr (.inl hc))]) (by decide)
 have h2 : okW y := by simpa using hc
 refine (M0n hx).mono fun v V3 _ hv => ⟨_, hv, fun hc => ?_, fun hc => ?_⟩
 · have hc : key x = (infR : Int) := by simp only [decide_eq_true_eq] at hc; exact hc.2
   exact bad (by unfold mkE; rw [if_pos (.inr (.inr (.inl hc)))]) (by decide)
 have h3 : ¬ key x = (infR : Int) := by simp only [decide_eq_false_iff_not] at hc; exact fun e => hc ⟨h1, e⟩
 refine (E0h hy).mono fun v V4 _ hv => ⟨_, hv, fun hc => ?_, fun hc => ?_⟩
 · have hc : key y = -(infR : Int) := by simp only [decide_eq_true_eq] at hc; exact hc.2
   exact bad (by unfold mkE; rw [if_pos (.inr (.inr (.inr hc)))]) (by decide)
 have h4 : ¬ key y = -(infR : Int) := by simp only [decide_eq_false_iff_not] at hc; exact fun e => hc ⟨h2, e⟩
 have hno : ¬ (¬ okW x ∨ ¬ okW y ∨ key x = (infR : Int) ∨ key y = -(infR : Int)) := by
  rintro (h | h | h | h)
  · exact h h1
  · exact h h2
  · exact h3 h
  · exact h4 h
 refine ⟨fun hc => ?_, fun hc => ?_⟩
 · rw [F0k h1 h2] at hc
   have hc : key y < key x := by simpa using hc
   exact bad (by unfold mkE; rw [if_neg hno, if_pos hc]) (by decide)
 · rw [F0k h1 h2] at hc
   have hc : ¬ key y < key x := by simpa using hc
   have he : mkE x y = 0 := by unfold mkE; rw [if_neg hno, if_neg hc]
   refine (W0a h1).mono fun v V5 _ hv => ⟨_, hv, (W0a h2).mono fun v V6 _ hv => ⟨_, hv, ?_⟩⟩
   unfold mkS; rw [he, if_pos rfl]; rfl
theorem L0h {V : View} {s : Sk} (h : s.ok) : a00 prog f0m #[s.v.val] V fun v _ => v = s.neg.v.val := by
 have a := b0a (okK h.hi); have b := b0a (okK h.lo)
 refine m0k s.v V _ ((W0a a.1).mono fun v V1 _ hv => ⟨_, hv, (W0a b.1).mono fun v V2 _ hv => ⟨_, hv, ?_⟩⟩)
 rw [a.2, b.2, keyK h.hi, keyK h.lo]; rfl
theorem m0l {V : View} {s t : Sk} (h : s.ok) (k : t.ok) : a00 prog L0o #[s.v.val, t.v.val] V fun v _ => v = (s.hull t).v.val := by
 refine p0m s.v t.v V _ ⟨u0h h.lo k.lo, u0h h.hi k.hi, ?_⟩
 show (SpV.mk (fmin .f64 (j04 s.lo) (j04 t.lo)) (fmax .f64 (j04 s.hi) (j04 t.hi))).val = _
 rw [u0t h.lo k.lo, t0t h.hi k.hi]; rfl
theorem k07 {V : View} {s : Sk} (h : s.ok) : a00 prog Q0o #[s.v.val] V fun v V' => ∃ r : SetV, v = r.val ∧ EsAt V' r s.set := by
 refine q0m s.v V _ ((U0n (okK h.lo)).mono fun v V1 _ ⟨a, hv, ha⟩ => ⟨a, hv, (U0n (okK h.hi)).mono fun v V2 l2 ⟨b, hv, hb⟩ => ⟨b, hv, _, rfl, ?_, ?_⟩⟩)
 · rw [keyK h.lo] at ha; exact ha.le l2
 · rw [keyK h.hi] at hb; exact hb
theorem d08 {s : Sk} (h : s.ok) : i03 s.set 2100 := ⟨m0d h.lo, m0d h.hi⟩
theorem Z0n {V : View} {s : Sk} (h : s.ok) {x : NumV} {z : Cq} (hx : n02 V x z) (hz : z.sz ≤ 2 ^ 40) : a00 prog N0o #[s.v.val, x.val] V fun v _ => v = .bool (decide (z.im = 0) && s.has z.re) := by
 refine s0m s.v x V _ ((k07 h).mono fun v V1 l1 ⟨r, hv, hr⟩ => ⟨r, hv, (q09 (hx.le l1)).mono fun v V2 l2 hv => ⟨_, hv, fun hc => ?_, fun hc => ?_⟩⟩)
 · have hc : z.im = 0 := by simpa using hc
   have e : z = (⟨0, z.re⟩ : Eb).num := Cq.ext' rfl hc
   have hb : BdAt V2 (BdV.mk 0 x) ⟨0, z.re⟩ := ⟨rfl, by rw [← e]; exact hx.le (View.le_trans l1 l2), .inl rfl⟩
   have hzz : (⟨0, z.re⟩ : Eb).num.sz ≤ 2 ^ 40 := by rw [← e]; exact hz
   have s1 : (endE s.lo).num.sz ≤ 2 ^ 40 := Nat.le_trans (m0d h.lo) (by omega)
   have s2 : (endE s.hi).num.sz ≤ 2 ^ 40 := Nat.le_trans (m0d h.hi) (by omega)
   refine (Q04 (hr.lo.le l2) hb s1 hzz).mono fun v V3 l3 hv => ⟨_, hv, fun hd => ?_, fun hd => ?_⟩
   · refine (Q04 (hb.le l3) (hr.hi.le (View.le_trans l2 l3)) hzz s2).mono fun v V4 _ hv => ⟨_, hv, ?_⟩
     have hd : s.set.lo.cmp ⟨0, z.re⟩ ≤ 0 := by simpa using hd
     have hd : (endE s.lo).cmp ⟨0, z.re⟩ ≤ 0 := hd
     show Value.bool _ = _
     unfold Sk.has; rw [hc, decide_eq_true hd]; simp; rfl
   · have hd : ¬ s.set.lo.cmp ⟨0, z.re⟩ ≤ 0 := by simpa using hd
     have hd : ¬ (endE s.lo).cmp ⟨0, z.re⟩ ≤ 0 := hd
     unfold Sk.has; rw [decide_eq_false hd]; simp
 · have hc : ¬ z.im = 0 := by simpa using hc
   simp [hc]
theorem t0s {V : View} {c d : CxV} (h1 : c.re < 2 ^ 64) (h2 : c.im < 2 ^ 64) (h3 : d.re < 2 ^ 64) (h4 : d.im < 2 ^ 64) : a00 prog K0o #[.complex .f64 c.re c.im, .complex .f64 d.re d.im] V fun v _ => v = .tuple #[(mkB c.re c.im d.re d.im).v.val, .int .i64 (mkBE c.re c.im d.re d.im)] := by
 refine t0m c d V _ ((G0c h1 h3).mono fun v V1 _ hv => ⟨_, _, hv, (G0c h2 h4).mono fun v V2 _ hv => ⟨_, _, hv, fun hc => ?_, fun hc => ?_⟩⟩)
 · have hc : mkE c.re d.re = 1 := by simpa using hc
   have e : mkBE c.re c.im d.re d.im = 1 := by unfold mkBE; rw [if_pos (.inl hc)]
   unfold mkB; rw [e]; rfl
 have c1 : ¬ mkE c.re d.re = 1 := by simpa using hc
 refine ⟨fun hc => ?_, fun hc => ?_⟩
 · have hc : mkE c.im d.im = 1 := by simpa using hc
   have e : mkBE c.re c.im d.re d.im = 1 := by unfold mkBE; rw [if_pos (.inr hc)]
   unfold mkB; rw [e]; rfl
 have c2 : ¬ mkE c.im d.im = 1 := by simpa using hc
 have hno : ¬ (mkE c.re d.re = 1 ∨ mkE c.im d.im = 1) := by rintro (h | h); exact c1 h; exact c2 h
 refine ⟨fun hc => ?_, fun hc => ?_⟩
 · have hc : mkE c.re d.re ≠ 0 := by simpa using hc
   have e : mkBE c.re c.im d.re d.im = 7 := by unfold mkBE; rw [if_neg hno, if_pos (.inl hc)]
   unfold mkB; rw [e]; rfl
 have c3 : ¬ mkE c.re d.re ≠ 0 := by simpa using hc
 refine ⟨fun hc => ?_, fun hc => ?_⟩
 · have hc : mkE c.im d.im ≠ 0 := by simpa using hc
   have e : mkBE c.re c.im d.re d.im = 7 := by unfold mkBE; rw [if_neg hno, if_pos (.inr hc)]
   unfold mkB; rw [e]; rfl
 have c4 : ¬ mkE c.im d.im ≠ 0 := by simpa using hc
 have e : mkBE c.re c.im d.re d.im = 0 := by unfold mkBE; rw [if_neg hno, if_neg]; rintro (h | h); exact c3 h; exact c4 h
 unfold mkB; rw [e]; rfl
theorem u0s {V : View} (b : BoxV) : a00 prog b0t #[b.val] V fun v _ => v = .complex .f64 b.re.lo b.im.lo := c0r b V _ rfl
theorem w0s {V : View} (b : BoxV) : a00 prog c0t #[b.val] V fun v _ => v = .complex .f64 b.re.hi b.im.hi := d0r b V _ rfl
theorem p0a {V : View} {b : Bk} (h : b.ok) {x : NumV} {z : Cq} (hx : n02 V x z) (hz : z.sz ≤ 2 ^ 39) : a00 prog C0q #[b.v.val, x.val] V fun v _ => v = .bool (b.has z) := by
 have hz1 := H0u z; have hz2 := I0u z
 refine A0p b.v x V _ ((G0b hx (by omega)).mono fun v V1 l1 ⟨r, hv, hr⟩ => ⟨r, hv, ?_⟩)
 refine (Z0n h.re hr (by omega)).mono fun v V2 l2 hv => ⟨_, hv, fun hc => ?_, fun hc => ?_⟩
 · have hc : b.re.has z.re = true := by simpa using hc
   refine (H0b (hx.le (View.le_trans l1 l2)) (by omega)).mono fun v V3 l3 ⟨r, hv, hr⟩ => ⟨r, hv, ?_⟩
   refine (Z0n h.im hr (by omega)).mono fun v V4 l4 hv => ⟨_, hv, ?_⟩
   unfold Bk.has; rw [hc]; simp
 · have hc : b.re.has z.re = false := by simpa using hc
   unfold Bk.has; rw [hc]; simp
theorem x06 {V : View} {b : Bk} (h : b.ok) : a00 prog S0e #[b.v.val] V fun v _ => v = .bool (!b.has Cq.zero) :=
 n0k b.v V _ ((p0a h (n02.zero V) (Nat.le_trans S04 (by omega))).mono fun v V1 _ hv => ⟨_, hv, rfl⟩)
theorem j0j {e f : Es} {S : Nat} (he : i03 e S) (hf : i03 f S) : i03 (e.add f) (2 * S + 1) := by
 have a := he.1; have b := he.2; have c := hf.1; have d := hf.2
 have h1 := K0h e.lo f.lo; have h2 := K0h e.hi f.hi
 exact ⟨show (e.lo.add f.lo).num.sz ≤ _ by omega, show (e.hi.add f.hi).num.sz ≤ _ by omega⟩
theorem H0c {e : Es} {S : Nat} (he : i03 e S) : i03 e.neg S := by
 refine ⟨?_, ?_⟩
 · show e.hi.neg.num.sz ≤ S; rw [T0a]; exact he.2
 · show e.lo.neg.num.sz ≤ S; rw [T0a]; exact he.1
theorem e08 {e f : Es} {S : Nat} (he : i03 e S) (hf : i03 f S) : i03 (e.mul f) (2 * S + 1) := by
 have hp := X0n he hf
 exact ⟨g0j (by unfold Es.prods; simp) hp, g0j (by unfold Es.prods; simp) hp⟩
theorem q0a {V : View} {b c : Bk} (h : b.ok) (k : c.ok) : a00 prog Q0e #[b.v.val, c.v.val] V fun v _ => v = (b.mul c).v.val := by
 have s1 := d08 h.re; have s2 := d08 h.im; have s3 := d08 k.re; have s4 := d08 k.im
 refine B0p b.v c.v V _ ((k07 h.re).mono fun v V1 l1 ⟨p, hv, hp⟩ => ⟨p, hv, ?_⟩)
 refine (k07 h.im).mono fun v V2 l2 ⟨q, hv, hq⟩ => ⟨q, hv, ?_⟩
 refine (k07 k.re).mono fun v V3 l3 ⟨r, hv, hr⟩ => ⟨r, hv, ?_⟩
 refine (k07 k.im).mono fun v V4 l4 ⟨s, hv, hs⟩ => ⟨s, hv, ?_⟩
 replace hp := hp.le (View.le_trans l2 (View.le_trans l3 l4)); replace hq := hq.le (View.le_trans l3 l4); replace hr := hr.le l4
 refine (c08 hp hr s1 s3 (by omega)).mono fun v V5 l5 ⟨x5, hv, h5⟩ => ⟨x5, hv, ?_⟩
 replace hp := hp.le l5; replace hq := hq.le l5; replace hr := hr.le l5; replace hs := hs.le l5
 refine (c08 hq hs s2 s4 (by omega)).mono fun v V6 l6 ⟨x6, hv, h6⟩ => ⟨x6, hv, ?_⟩
 replace hp := hp.le l6; replace hq := hq.le l6; replace hr := hr.le l6; replace hs := hs.le l6; replace h5 := h5.le l6
 refine (n0a h6).mono fun v V7 l7 ⟨x7, hv, h7⟩ => ⟨x7, hv, ?_⟩
 replace hp := hp.le l7; replace hq := hq.le l7; replace hr := hr.le l7; replace hs := hs.le l7; replace h5 := h5.le l7
 refine (o0a h5 h7 (e08 s1 s3) (H0c (e08 s2 s4)) (by omega)).mono fun v V8 l8 ⟨x8, hv, h8⟩ => ⟨x8, hv, ?_⟩
 replace hp := hp.le l8; replace hq := hq.le l8; replace hr := hr.le l8; replace hs := hs.le l8
 refine (q05 h8 (j0j (e08 s1 s3) (H0c (e08 s2 s4))) (by omega)).mono fun v V9 l9 hv => ⟨_, hv, ?_⟩
 replace hp := hp.le l9; replace hq := hq.le l9; replace hr := hr.le l9; replace hs := hs.le l9
 refine (c08 hp hs s1 s4 (by omega)).mono fun v V10 l10 ⟨x10, hv, h10⟩ => ⟨x10, hv, ?_⟩
 replace hq := hq.le l10; replace hr := hr.le l10
 refine (c08 hq hr s2 s3 (by omega)).mono fun v V11 l11 ⟨x11, hv, h11⟩ => ⟨x11, hv, ?_⟩
 refine (o0a (h10.le l11) h11 (e08 s1 s4) (e08 s2 s3) (by omega)).mono fun v V12 l12 ⟨x12, hv, h12⟩ => ⟨x12, hv, ?_⟩
 exact (q05 h12 (j0j (e08 s1 s4) (e08 s2 s3)) (by omega)).mono fun v V13 _ hv => ⟨_, hv, rfl⟩
theorem Bk.mul_ok (b c : Bk) : (b.mul c).ok := ⟨s07 _, s07 _⟩
theorem n0l {V : View} {b : Bk} (h : b.ok) : a00 prog a0k #[b.v.val] V fun v _ => v = b.neg.v.val :=
 C0p b.v V _ ((L0h h.re).mono fun _ _ _ hv => ⟨_, hv, (L0h h.im).mono fun _ _ _ hv => ⟨_, hv, rfl⟩⟩)
theorem k0j {V : View} {b c : Bk} (h : b.ok) (k : c.ok) : a00 prog J0o #[b.v.val, c.v.val] V fun v _ => v = (b.hull c).v.val :=
 w0m b.v c.v V _ ((m0l h.re k.re).mono fun _ _ _ hv => ⟨_, hv, (m0l h.im k.im).mono fun _ _ _ hv => ⟨_, hv, rfl⟩⟩)

def Q08 (V : View) (n cap : Nat) (o : List Value) (es : List Eb) : Prop := ∃ l, H04 6 n cap o l ∧ G01 6 bdC V l es ∧ n = es.length
theorem Q08.le {V V' : View} (hle : V.le V') {n cap : Nat} {o : List Value} {es : List Eb} (h : Q08 V n cap o es) : Q08 V' n cap o es := by
 obtain ⟨l, h1, h2, h3⟩ := h; exact ⟨l, h1, h2.imp (bdC.le hle), h3⟩
theorem c0q (r : BdV) : ∀ v ∈ [Value.int .i64 r.inf, .bool r.x.re.neg, r.x.re.mag.v, .bool r.x.im.neg, r.x.im.mag.v, r.x.under.v], Value.oneCell' v = true := by
 intro v hv
 simp only [List.mem_cons, List.not_mem_nil, or_false] at hv
 rcases hv with rfl | rfl | rfl | rfl | rfl | rfl <;> rfl
theorem m0x {V : View} {b : Nat} {l : List Value} (h : V b = some l.toArray) : V.has (some (Addr.mk b 0 none)) l := by
 intro j v hj
 rw [P04 h]
 simpa using hj
theorem Q08.push {V1 : View} {n cap : Nat} {o : List Value} {es : List Eb} {r : BdV} {e : Eb} {b : Nat} {R : Nat → Nat → List Value → View → Prop} (h : Q08 V1 n cap o es) (hr : BdAt V1 r e) (hl : es.length ≤ 2 ^ 20)
 (hb : V1 b = some #[.int .i64 r.inf, .bool r.x.re.neg, r.x.re.mag.v, .bool r.x.im.neg, r.x.im.mag.v, r.x.under.v]) (hR : ∀ c l3, Q08 V1 (n + 1) c l3 (es ++ [e]) → R (n + 1) c l3 V1) :
 ∃ (l1 l2 : List Value), H04 6 n cap o l1 ∧ View.has V1 (some (Addr.mk b 0 none)) l2 ∧ List.length l2 = 1 * 6 ∧ (∀ v ∈ l2, Value.oneCell' v = true) ∧ n + 1 ≤ maxLen ∧ (n + 1) * 96 ≤ 140737488355328 ∧
  ∀ (c1 : Nat) (l3 : List Value), H04 6 (n + 1) c1 l3 (l1 ++ l2) → R (n + 1) c1 l3 V1 := by
 obtain ⟨l, h1, h2, h3⟩ := h
 refine ⟨l, _, h1, m0x (l := [.int .i64 r.inf, .bool r.x.re.neg, r.x.re.mag.v, .bool r.x.im.neg, r.x.im.mag.v, r.x.under.v]) hb, rfl, c0q r, Nat.le_trans (show n + 1 ≤ 2 ^ 20 + 1 by omega) (by decide), by omega, fun c1 l3 hl3 => hR _ _ ⟨_, hl3, ?_, by simp; omega⟩⟩
 exact G01.append h2 (G01.one rfl ⟨r, rfl, hr⟩)
theorem o0l (a b : Rat) : (⟨a, 0⟩ : Cq).div (⟨a, 0⟩ * ⟨a, 0⟩ + ⟨b, 0⟩ * ⟨b, 0⟩) = ⟨a / (a * a + b * b), 0⟩ := by
 rw [Y0a, Y0a, u0d]
 refine Cq.ext' ?_ ?_
 · show (a * (a * a + b * b) + 0 * 0) / ((a * a + b * b) * (a * a + b * b) + 0 * 0) = a / (a * a + b * b)
   by_cases h : a * a + b * b = 0
   · rw [h]; simp [Rat.div_def]; try grind
   · grind
 · show (0 * (a * a + b * b) - a * 0) / ((a * a + b * b) * (a * a + b * b) + 0 * 0) = 0
   have e : 0 * (a * a + b * b) - a * 0 = (0 : Rat) := by grind
   rw [e, Rat.div_def]; grind
theorem x0s {a b : Eb} {S : Nat} (ha : a.num.sz ≤ S) (hb : b.num.sz ≤ S) : (Z01 a b).num.sz ≤ 32 * S + 40 := by
 unfold Z01; split
 · have := S04; show Cq.zero.sz ≤ _; omega
 · show (⟨a.x / (a.x * a.x + b.x * b.x), 0⟩ : Cq).sz ≤ _
   rw [← o0l]
   have h1 := O04 a.num a.num; have h2 := O04 b.num b.num; have h3 := x0a (a.num * a.num) (b.num * b.num)
   have h4 := Q0n (z := a.num) (w := a.num * a.num + b.num * b.num) (S := 4 * S + 4) (by omega) (by omega)
   exact Nat.le_trans h4 (by omega)
theorem s0a {V : View} {a b : BdV} {e f : Eb} {n cap : Nat} {o : List Value} {es : List Eb} (ha : BdAt V a e) (hb : BdAt V b f) (he : e.num.sz ≤ 2 ^ 30) (hf : f.num.sz ≤ 2 ^ 30) (h : Q08 V n cap o es) (hl : es.length ≤ 2 ^ 20) :
 P0c prog f0i ([a.val, b.val] : List Value) o0g p0g n cap o V fun n' cap' o' V' => Q08 V' n' cap' o' (es ++ [Z01 e f]) := by
 have iz : ∀ {V1 : View}, BdAt V1 (BdV.mk 0 (NumV.mk (WhV.mk false (Sl.mk none 0 0)) (WhV.mk false (Sl.mk none 0 0)) (Sl.mk none 0 0))) ⟨0, 0⟩ := BdAt.zero _
 refine q0g n cap o a b V _ ⟨fun hc b1 V1 l1 _ hb1 => ?_, fun hc => ⟨fun hd b1 V1 l1 _ hb1 => ?_, fun hd => ?_⟩⟩
 · have hc : e.inf ≠ 0 := by rw [← ha.inf]; simpa using hc
   have e1 : Z01 e f = ⟨0, 0⟩ := by unfold Z01; rw [if_pos (.inl hc)]
   rw [e1]
   exact (h.le l1).push (R := fun n' cap' o' V' => Q08 V' n' cap' o' (es ++ [⟨0, 0⟩])) (r := BdV.mk 0 (NumV.mk (WhV.mk false (Sl.mk none 0 0)) (WhV.mk false (Sl.mk none 0 0)) (Sl.mk none 0 0))) iz hl hb1 fun _ _ h => h
 · have hd : f.inf ≠ 0 := by rw [← hb.inf]; simpa using hd
   have e1 : Z01 e f = ⟨0, 0⟩ := by unfold Z01; rw [if_pos (.inr hd)]
   rw [e1]
   exact (h.le l1).push (R := fun n' cap' o' V' => Q08 V' n' cap' o' (es ++ [⟨0, 0⟩])) (r := BdV.mk 0 (NumV.mk (WhV.mk false (Sl.mk none 0 0)) (WhV.mk false (Sl.mk none 0 0)) (Sl.mk none 0 0))) iz hl hb1 fun _ _ h => h
 · have hc : ¬ e.inf ≠ 0 := by rw [← ha.inf]; simpa using hc
   have hd : ¬ f.inf ≠ 0 := by rw [← hb.inf]; simpa using hd
   have s1 := O04 e.num e.num; have s2 := O04 f.num f.num; have s3 := x0a (e.num * e.num) (f.num * f.num)
   refine (Q05 ha.num ha.num (by omega) (by omega)).mono fun v V1 l1 ⟨r1, hv, h1⟩ => ⟨r1, hv, ?_⟩
   refine (Q05 (hb.num.le l1) (hb.num.le l1) (by omega) (by omega)).mono fun v V2 l2 ⟨r2, hv, h2⟩ => ⟨r2, hv, ?_⟩
   refine (b08 (h1.le l2) h2 (by omega) (by omega)).mono fun v V3 l3 ⟨r3, hv, h3⟩ => ⟨r3, hv, ?_⟩
   have L3 := View.le_trans l1 (View.le_trans l2 l3)
   refine (P0d (ha.num.le L3) h3 (by omega) (by omega)).mono fun v V4 l4 ⟨r4, er, hv, hz, hn⟩ => ⟨r4, er, hv, fun b1 V5 l5 _ hb1 => ?_⟩
   have h4 : n02 V4 r4 (Z01 e f).num := by
    have e1 : (Z01 e f).num = e.num.div (e.num * e.num + f.num * f.num) := by
     unfold Z01; rw [if_neg (by rintro (h | h); exact hc h; exact hd h)]; exact (o0l e.x f.x).symm
    rw [e1]
    by_cases h0 : e.num * e.num + f.num * f.num = Cq.zero
    · have := (hz h0).2
      have e2 : e.num.div (e.num * e.num + f.num * f.num) = Cq.zero := by
       rw [h0]; refine Cq.ext' ?_ ?_
       · show (_ : Rat) / (0 * 0 + 0 * 0) = 0; simp [Rat.div_def]; try grind
       · show (_ : Rat) / (0 * 0 + 0 * 0) = 0; simp [Rat.div_def]; try grind
      rw [e2]; exact this
    · exact (hn h0).2
   have hi : (Z01 e f).inf = 0 := by unfold Z01; split <;> rfl
   have h5 : BdAt V5 (BdV.mk 0 r4) (Z01 e f) := ⟨hi.symm, h4.le l5, .inl hi⟩
   exact (h.le (View.le_trans L3 (View.le_trans l4 l5))).push (R := fun n' cap' o' V' => Q08 V' n' cap' o' (es ++ [Z01 e f])) (r := BdV.mk 0 r4) h5 hl hb1 fun _ _ h => h
theorem o0d {V : View} {b : Nat} {r1 r2 : BdV} {e1 e2 : Eb} (h1 : BdAt V r1 e1) (h2 : BdAt V r2 e2)
 (hb : V b = some #[.int .i64 r1.inf, .bool r1.x.re.neg, r1.x.re.mag.v, .bool r1.x.im.neg, r1.x.im.mag.v, r1.x.under.v, .int .i64 r2.inf, .bool r2.x.re.neg, r2.x.re.mag.v, .bool r2.x.im.neg, r2.x.im.mag.v, r2.x.under.v]) :
 y0g V ⟨some ⟨b, 0, none⟩, 2, 2⟩ [e1, e2] :=
 T04 (o := r1.val.cells.toList ++ (r2.val.cells.toList ++ [])) hb ⟨_, _, rfl, rfl, ⟨r1, rfl, h1⟩, _, _, rfl, rfl, ⟨r2, rfl, h2⟩, rfl⟩ rfl
theorem l0j {V : View} {b : Nat} {e1 e2 : Eb} (h : y0g V ⟨some ⟨b, 0, none⟩, 2, 2⟩ [e1, e2]) {i : Nat} (hi : i < 2) :
 ((0 : Int) ≤ (i : Int) ∧ (i : Int) < (2 : Nat) ∧ Option.isSome (some (Addr.mk b 0 none)) = true) ∧
 ∃ x : BdV, View.has V (Option.map (fun q => Addr.add q (Int.toNat (i : Int) * 6)) (some (Addr.mk b 0 none))) (x.val).cells.toList ∧ Option.isSome (Option.map (fun q => Addr.add q (Int.toNat (i : Int) * 6)) (some (Addr.mk b 0 none))) = true ∧ BdAt V x (at2 e1 e2 i) := by
 obtain ⟨hb, x, ⟨b0, hx, hb0⟩, _, hh, hs⟩ := s00.get h (t := (i : Int)) (by omega) (z := at2 e1 e2 i) (by
  rw [Int.toNat_natCast]
  rcases (by omega : i = 0 ∨ i = 1) with rfl | rfl <;> rfl)
 exact ⟨hb, b0, hx ▸ hh, hs, hb0⟩
theorem a0o {e1 e2 : Eb} {S i : Nat} (h1 : e1.num.sz ≤ S) (h2 : e2.num.sz ≤ S) : (at2 e1 e2 i).num.sz ≤ S := by
 cases i with
 | zero => exact h1
 | succ i => exact h2
theorem I0b {x y : Es} (sx : i03 x (2 ^ 12)) (sy : i03 y (2 ^ 12)) : ∀ e ∈ t05 x y, e.num.sz ≤ 2 ^ 18 := by
 have v : ∀ {a b : Eb}, a.num.sz ≤ 2 ^ 12 → b.num.sz ≤ 2 ^ 12 → (Z01 a b).num.sz ≤ 2 ^ 18 := fun ha hb => Nat.le_trans (x0s ha hb) (by omega)
 have z : (Eb.fin 0).num.sz ≤ 2 ^ 12 := Nat.le_trans X0m (by omega)
 have A : ∀ {a : Eb}, a.num.sz ≤ 2 ^ 12 → ∀ e ∈ rowA y a, e.num.sz ≤ 2 ^ 18 := by
  intro a ha e he
  unfold rowA rowZ at he
  split at he
  · simp only [List.cons_append, List.nil_append, List.mem_cons, List.not_mem_nil, or_false] at he
    rcases he with rfl | rfl | rfl
    · exact v ha sy.1
    · exact v ha sy.2
    · exact v ha z
  · simp only [List.append_nil, List.mem_cons, List.not_mem_nil, or_false] at he
    rcases he with rfl | rfl
    · exact v ha sy.1
    · exact v ha sy.2
 have C : ∀ {b a : Eb}, b.num.sz ≤ 2 ^ 12 → a.num.sz ≤ 2 ^ 12 → ∀ e ∈ colB x b a, e.num.sz ≤ 2 ^ 18 := by
  intro b a hb ha e he
  unfold colB at he
  split at he
  · simp only [List.mem_cons, List.not_mem_nil, or_false] at he
    subst he; exact v ha hb
  · simp at he
 have B : ∀ {b : Eb}, b.num.sz ≤ 2 ^ 12 → ∀ e ∈ rowB x b, e.num.sz ≤ 2 ^ 18 := by
  intro b hb e he
  unfold rowB at he
  rcases List.mem_append.1 he with h | h
  · exact C hb hb e h
  · exact C hb (by rw [T0a]; exact hb) e h
 intro e he
 simp only [t05, preB, preA] at he
 rcases List.mem_append.1 he with h | h
 · rcases List.mem_append.1 h with h | h
   · exact A sx.1 e h
   · exact A sx.2 e h
 · rcases List.mem_append.1 h with h | h
   · exact B sy.1 e h
   · exact B sy.2 e h
theorem y0s {x y : Es} (sx : i03 x (2 ^ 12)) (sy : i03 y (2 ^ 12)) : ∀ e ∈ t05 x y, e.num.sz ≤ 2 ^ 40 := fun e he => Nat.le_trans (I0b sx sy e he) (by omega)
theorem M0h {V : View} {s t : SetV} {x y : Es} (hx : EsAt V s x) (hy : EsAt V t y) (sx : i03 x (2 ^ 12)) (sy : i03 y (2 ^ 12)) :
 a00 prog Q0l #[s.val, t.val] V fun v V' => ∃ r : SetV, v = r.val ∧ EsAt V' r (x.share y) := by
 refine k0k s t V _
  (fun _ w V' => ∃ i : Nat, i ≤ 2 ∧ w.t22 = i ∧ Q08 V' w.o5_0l w.o5_0c w.o6 (preA x y i)) (fun _ w _ => (2 - w.t22).toNat)
  (fun c w V' => ∃ j : Nat, j ≤ 2 ∧ w.t32 = j ∧ Q08 V' w.o5_0l w.o5_0c w.o6 (preA x y c.t22.toNat ++ inA y (at2 x.lo x.hi c.t22.toNat) j)) (fun _ w _ => (2 - w.t32).toNat)
  (fun _ w V' => ∃ i : Nat, i ≤ 2 ∧ w.t59 = i ∧ Q08 V' w.o5_0l w.o5_0c w.o6 (preB x y i)) (fun _ w _ => (2 - w.t59).toNat)
  (fun c w V' => ∃ j : Nat, j ≤ 2 ∧ w.t68 = j ∧ Q08 V' w.o5_0l w.o5_0c w.o6 (preB x y c.t59.toNat ++ inB x (at2 y.lo y.hi c.t59.toNat) j)) (fun _ w _ => (2 - w.t68).toNat) ?_
 intro b1 V1 l1 _ hb1
 replace hx := hx.le l1; replace hy := hy.le l1
 have hxs := o0d hx.lo hx.hi hb1
 refine ⟨⟨0, by omega, rfl, [], H04.nil, rfl, rfl⟩, ?_⟩
 rintro ⟨t22, o4, o5l, o5c, o6⟩ V2 l2 ⟨i, hi, rfl, hg⟩
 dsimp only at hg ⊢
 have big : ∀ {e : Eb}, e.num.sz ≤ 2 ^ 12 → e.num.sz ≤ 2 ^ 30 := fun h => Nat.le_trans h (by omega)
 have big40 : ∀ {e : Eb}, e.num.sz ≤ 2 ^ 12 → e.num.sz ≤ 2 ^ 40 := fun h => Nat.le_trans h (by omega)
 refine ⟨fun hlt => ?_, fun hge => ?_⟩
 · simp only [decide_eq_true_eq] at hlt
   have hi2 : i < 2 := by omega
   obtain ⟨hb, x3, hh, hs, hx3⟩ := l0j (hxs.le l2) hi2
   have sx3 : (at2 x.lo x.hi i).num.sz ≤ 2 ^ 12 := a0o sx.1 sx.2
   refine ⟨hb, x3, hh, hs, fun b2 V3 l3 _ hb2 => ?_⟩
   have hys := o0d (hy.lo.le (View.le_trans l2 l3)) (hy.hi.le (View.le_trans l2 l3)) hb2
   refine ⟨⟨0, by omega, rfl, ?_⟩, ?_⟩
   · rw [Int.toNat_natCast]; simpa [inA] using hg.le l3
   rintro ⟨t32, q5l, q5c, q6⟩ V4 l4 ⟨j, hj, rfl, hg2⟩
   dsimp only at hg2 ⊢
   rw [Int.toNat_natCast] at hg2
   have L34 := View.le_trans l3 l4
   have ln1 := D0n x y i; have ln2 := l0v y (at2 x.lo x.hi i) j
   refine ⟨fun hlt2 => ?_, fun hge2 => ?_⟩
   · simp only [decide_eq_true_eq] at hlt2
     have hj2 : j < 2 := by omega
     obtain ⟨hb', x6, hh', hs', hx6⟩ := l0j (hys.le l4) hj2
     refine ⟨hb', x6, hh', hs', ?_⟩
     refine (s0a (hx3.le L34) hx6 (big sx3) (big (a0o sy.1 sy.2)) hg2 (by simp only [List.length_append]; omega)).mono fun n' c' o' V5 l5 _ hg3 => ?_
     rw [i64w (by omega) (by omega)]
     rw [List.append_assoc, w0t y _ hj2] at hg3
     refine ⟨⟨j + 1, by omega, by simp, ?_⟩, ?_⟩
     · rw [Int.toNat_natCast]; exact hg3
     · omega
   · simp only [decide_eq_false_iff_not] at hge2
     have hj2 : j = 2 := by omega
     subst hj2
     have done : ∀ {V' : View} {n c : Nat} {o : List Value}, Q08 V' n c o (preA x y i ++ inA y (at2 x.lo x.hi i) 2 ++ rowZ y (at2 x.lo x.hi i)) → ∃ i' : Nat, i' ≤ 2 ∧ (i : Int) + 1 = i' ∧ Q08 V' n c o (preA x y i') := by
      intro V' n c o h
      refine ⟨i + 1, by omega, by simp, ?_⟩
      rw [← H0r x y hi2]
      rw [List.append_assoc] at h; exact h
     have hy4 := hy.le (View.le_trans l2 L34)
     refine (i0j hy4 sy (by omega)).mono fun v V6 l6 hv => ⟨_, hv, fun hc => ?_, fun hc => ?_⟩
     · have hx3' := hx3.le (View.le_trans L34 l6)
       refine (F04 hx3' (big40 sx3)).mono fun v V7 l7 hv => ⟨_, hv, fun hd => ?_, fun hd => ?_⟩
       · have hd : (at2 x.lo x.hi i).sign ≠ 0 := by simpa using hd
         refine (s0a (hx3'.le l7) (BdAt.zero V7) (big sx3) (Nat.le_trans X0m (by omega)) (hg2.le (View.le_trans l6 l7)) (by simp only [List.length_append]; omega)).mono fun n' c' o' V8 l8 _ hg3 => ?_
         rw [i64w (by omega) (by omega)]
         refine ⟨done ?_, by omega⟩
         have : rowZ y (at2 x.lo x.hi i) = [Z01 (at2 x.lo x.hi i) (Eb.fin 0)] := by unfold rowZ; rw [if_pos ⟨hc, hd⟩]
         rw [this]; exact hg3
       · have hd : (at2 x.lo x.hi i).sign = 0 := by simpa using hd
         rw [i64w (by omega) (by omega)]
         refine ⟨done ?_, by omega⟩
         have : rowZ y (at2 x.lo x.hi i) = [] := by unfold rowZ; rw [if_neg (fun h => h.2 hd)]
         rw [this, List.append_nil]; exact hg2.le (View.le_trans l6 l7)
     · rw [i64w (by omega) (by omega)]
       refine ⟨done ?_, by omega⟩
       have : rowZ y (at2 x.lo x.hi i) = [] := by unfold rowZ; rw [if_neg (fun h => by rw [hc] at h; simp at h)]
       rw [this, List.append_nil]; exact hg2.le l6
 · simp only [decide_eq_false_iff_not] at hge
   have hi2 : i = 2 := by omega
   subst hi2
   intro b3 V9 l9 _ hb3
   replace hx := hx.le (View.le_trans l2 l9); replace hy := hy.le (View.le_trans l2 l9)
   have hys := o0d hy.lo hy.hi hb3
   refine ⟨⟨0, by omega, rfl, hg.le l9⟩, ?_⟩
   rintro ⟨t59, r4, r5l, r5c, r6⟩ V10 l10 ⟨k, hk, rfl, hgk⟩
   dsimp only at hgk ⊢
   refine ⟨fun hlt => ?_, fun hge => ?_⟩
   · simp only [decide_eq_true_eq] at hlt
     have hk2 : k < 2 := by omega
     obtain ⟨hb, x13, hh, hs, hx13⟩ := l0j (hys.le l10) hk2
     have s13 : (at2 y.lo y.hi k).num.sz ≤ 2 ^ 12 := a0o sy.1 sy.2
     refine ⟨hb, x13, hh, hs, ?_⟩
     refine (q08 hx13).mono fun v V11 l11 ⟨r3, hv, hr3⟩ => ⟨r3, hv, fun b4 V12 l12 _ hb4 => ?_⟩
     have hzs := o0d (hx13.le (View.le_trans l11 l12)) (hr3.le l12) hb4
     have sn : (at2 y.lo y.hi k).neg.num.sz ≤ 2 ^ 12 := by rw [T0a]; exact s13
     refine ⟨⟨0, by omega, rfl, ?_⟩, ?_⟩
     · rw [Int.toNat_natCast]; simpa [inB] using hgk.le (View.le_trans l11 l12)
     rintro ⟨t68, q5l, q5c, q6⟩ V13 l13 ⟨j, hj, rfl, hg2⟩
     dsimp only at hg2 ⊢
     rw [Int.toNat_natCast] at hg2
     have L := View.le_trans l10 (View.le_trans l11 (View.le_trans l12 l13))
     have hx13' := hx13.le (View.le_trans l11 (View.le_trans l12 l13))
     have ln1 := E0n x y k; have ln2 := m0v x (at2 y.lo y.hi k) j
     refine ⟨fun hlt2 => ?_, fun hge2 => ?_⟩
     · simp only [decide_eq_true_eq] at hlt2
       have hj2 : j < 2 := by omega
       obtain ⟨hb', x16, hh', hs', hx16⟩ := l0j (hzs.le l13) hj2
       have s16 : (at2 (at2 y.lo y.hi k) (at2 y.lo y.hi k).neg j).num.sz ≤ 2 ^ 12 := a0o s13 sn
       refine ⟨hb', x16, hh', hs', ?_⟩
       have stay : ∀ {V' : View} {n c : Nat} {o : List Value}, Q08 V' n c o (preB x y k ++ inB x (at2 y.lo y.hi k) j ++ colB x (at2 y.lo y.hi k) (at2 (at2 y.lo y.hi k) (at2 y.lo y.hi k).neg j)) →
        ∃ j' : Nat, j' ≤ 2 ∧ (j : Int) + 1 = j' ∧ Q08 V' n c o (preB x y (Int.toNat (k : Int)) ++ inB x (at2 y.lo y.hi (Int.toNat (k : Int))) j') := by
        intro V' n c o h
        rw [Int.toNat_natCast]
        refine ⟨j + 1, by omega, by simp, ?_⟩
        rw [List.append_assoc, x0t x _ hj2] at h; exact h
       have none : ∀ {V' : View}, V13.le V' → ¬ ((at2 y.lo y.hi k).inf = 0 ∧ (at2 y.lo y.hi k).sign ≠ 0 ∧ x.lo.cmp (at2 (at2 y.lo y.hi k) (at2 y.lo y.hi k).neg j) ≤ 0 ∧ (at2 (at2 y.lo y.hi k) (at2 y.lo y.hi k).neg j).cmp x.hi ≤ 0) →
        Q08 V' q5l q5c q6 (preB x y k ++ inB x (at2 y.lo y.hi k) j ++ colB x (at2 y.lo y.hi k) (at2 (at2 y.lo y.hi k) (at2 y.lo y.hi k).neg j)) := by
        intro V' hle hn
        have : colB x (at2 y.lo y.hi k) (at2 (at2 y.lo y.hi k) (at2 y.lo y.hi k).neg j) = [] := by unfold colB; rw [if_neg hn]
        rw [this, List.append_nil]; exact hg2.le hle
       refine ⟨fun ha => ?_, fun ha => ?_⟩
       · have ha : (at2 y.lo y.hi k).inf = 0 := by rw [← hx13.inf]; simpa using ha
         refine (F04 hx13' (big40 s13)).mono fun v V14 l14 hv => ⟨_, hv, fun hc => ?_, fun hc => ?_⟩
         · have hc : (at2 y.lo y.hi k).sign ≠ 0 := by simpa using hc
           refine (Q04 (hx.lo.le (View.le_trans L l14)) (hx16.le l14) (big40 sx.1) (big40 s16)).mono fun v V15 l15 hv => ⟨_, hv, fun hd => ?_, fun hd => ?_⟩
           · have hd : x.lo.cmp (at2 (at2 y.lo y.hi k) (at2 y.lo y.hi k).neg j) ≤ 0 := by simpa using hd
             have M := View.le_trans l14 l15
             refine (Q04 (hx16.le M) (hx.hi.le (View.le_trans L M)) (big40 s16) (big40 sx.2)).mono fun v V16 l16 hv => ⟨_, hv, fun he => ?_, fun he => ?_⟩
             · have he : (at2 (at2 y.lo y.hi k) (at2 y.lo y.hi k).neg j).cmp x.hi ≤ 0 := by simpa using he
               have M2 := View.le_trans M l16
               refine (s0a (hx16.le M2) (hx13'.le M2) (big s16) (big s13) (hg2.le M2) (by simp only [List.length_append]; omega)).mono fun n' c' o' V17 l17 _ hg3 => ?_
               rw [i64w (by omega) (by omega)]
               refine ⟨stay ?_, by omega⟩
               have : colB x (at2 y.lo y.hi k) (at2 (at2 y.lo y.hi k) (at2 y.lo y.hi k).neg j) = [Z01 (at2 (at2 y.lo y.hi k) (at2 y.lo y.hi k).neg j) (at2 y.lo y.hi k)] := by unfold colB; rw [if_pos ⟨ha, hc, hd, he⟩]
               rw [this]; exact hg3
             · have he : ¬ (at2 (at2 y.lo y.hi k) (at2 y.lo y.hi k).neg j).cmp x.hi ≤ 0 := by simpa using he
               rw [i64w (by omega) (by omega)]
               exact ⟨stay (none (View.le_trans M l16) fun h => he h.2.2.2), by omega⟩
           · have hd : ¬ x.lo.cmp (at2 (at2 y.lo y.hi k) (at2 y.lo y.hi k).neg j) ≤ 0 := by simpa using hd
             rw [i64w (by omega) (by omega)]
             exact ⟨stay (none (View.le_trans l14 l15) fun h => hd h.2.2.1), by omega⟩
         · have hc : (at2 y.lo y.hi k).sign = 0 := by simpa using hc
           rw [i64w (by omega) (by omega)]
           exact ⟨stay (none l14 fun h => h.2.1 hc), by omega⟩
       · have ha : ¬ (at2 y.lo y.hi k).inf = 0 := by rw [← hx13.inf]; simpa using ha
         rw [i64w (by omega) (by omega)]
         exact ⟨stay (none (View.le_refl V13) fun h => ha h.1), by omega⟩
     · simp only [decide_eq_false_iff_not] at hge2
       have hj2 : j = 2 := by omega
       subst hj2
       rw [i64w (by omega) (by omega)]
       refine ⟨⟨k + 1, by omega, by simp, ?_⟩, by omega⟩
       rw [← I0r x y hk2]; exact hg2
   · simp only [decide_eq_false_iff_not] at hge
     have hk2 : k = 2 := by omega
     subst hk2
     intro b5 V18 l18 hb5
     obtain ⟨o, ho, hcs, hn⟩ := hgk.le l18
     have hL : y0g V18 ⟨lstA b5 r5c, r5l, r5c⟩ (t05 x y) := l07 ho hb5 hcs hn
     have hlen := E0n x y 2
     have hsz := y0s (x := x) (y := y) sx sy
     refine (n0d hL (K06 x y) (Nat.le_trans hlen (by omega)) hsz).mono fun v V19 l19 ⟨r7, hv, h7⟩ => ⟨r7, hv, ?_⟩
     exact (t09 (hL.le l19) (K06 x y) (Nat.le_trans hlen (by omega)) hsz).mono fun v V20 l20 ⟨r8, hv, h8⟩ => ⟨r8, hv, _, rfl, h7.le l20, h8⟩
theorem N0h {x y : Es} (sx : i03 x (2 ^ 12)) (sy : i03 y (2 ^ 12)) : i03 (x.share y) (2 ^ 18) :=
 ⟨g0j (K06 x y) (I0b sx sy), g0j (K06 x y) (I0b sx sy)⟩

theorem P0u {s : Sk} (h : s.ok) : i03 s.set (2 ^ 12) := ⟨Nat.le_trans (m0d h.lo) (by omega), Nat.le_trans (m0d h.hi) (by omega)⟩
theorem T0d {V : View} {b : Bk} (h : b.ok) : a00 prog F0q #[b.v.val] V fun v _ => v = .tuple #[b.inv.v.val, .int .i64 b.invE] := by
 refine z0p b.v V _ ((x06 h).mono fun v V1 _ hv => ⟨_, hv, fun hc => ?_, fun hc => ?_⟩)
 · have hc : b.clear = false := by unfold Bk.clear; simpa using hc
   unfold Bk.inv Bk.invE; rw [hc]; rfl
 · have hc : b.clear = true := by unfold Bk.clear; simpa using hc
   have s1 := P0u h.re; have s2 := P0u h.im
   refine (k07 h.re).mono fun v V2 l2 ⟨x, hv, hx⟩ => ⟨x, hv, (k07 h.im).mono fun v V3 l3 ⟨y, hv, hy⟩ => ⟨y, hv, ?_⟩⟩
   refine (M0h (hx.le l3) hy s1 s2).mono fun v V4 l4 ⟨r, hv, hr⟩ => ⟨r, hv, ?_⟩
   refine (q05 hr (N0h s1 s2) (by omega)).mono fun v V5 l5 hv => ⟨_, hv, ?_⟩
   have L := View.le_trans l4 l5
   refine (M0h (hy.le L) (hx.le (View.le_trans l3 L)) s2 s1).mono fun v V6 l6 ⟨q, hv, hq⟩ => ⟨q, hv, ?_⟩
   refine (n0a hq).mono fun v V7 l7 ⟨p, hv, hp⟩ => ⟨p, hv, ?_⟩
   refine (q05 hp (H0c (N0h s2 s1)) (by omega)).mono fun v V8 l8 hv => ⟨_, hv, ?_⟩
   unfold Bk.inv Bk.invE; rw [hc]; rfl
theorem p0d {V : View} : a00 prog K0j #[] V fun v _ => v = .bool true := by
 refine u0i V _ ?_
 refine (t0s (c := CxV.mk 4607182418800017408 0) (d := CxV.mk 4611686018427387904 4607182418800017408) (by decide) (by decide) (by decide) (by decide)).mono fun v V1 _ hv => ⟨awB.v, 0, ?_, ?_⟩
 · rw [hv]
   show Value.tuple #[(mkB 4607182418800017408 0 4611686018427387904 4607182418800017408).v.val, .int .i64 (mkBE 4607182418800017408 0 4611686018427387904 4607182418800017408)] = _
   rw [G0m.1, G0m.2]
 have ok : awB.ok := by rw [← G0m.1]; exact Q0w _ _ _ _
 have okP : awP.ok := by rw [← z0u]; exact Bk.mul_ok _ _
 refine (T0d ok).mono fun v V2 _ hv => ⟨awB.invB.v, 0, ?_, ?_⟩
 · rw [hv]; unfold Bk.inv Bk.invE; rw [O0i.1]; rfl
 refine (q0a ok ok).mono fun v V3 _ hv => ⟨awP.v, by rw [hv, z0u], ⟨fun _ => ⟨fun _ => ?_, fun h => absurd h (by decide)⟩, fun h => absurd h (by decide)⟩⟩
 refine (u0s awP.v).mono fun v V4 _ hv => ⟨CxV.mk 0 0, hv, fun _ => ?_, fun h => absurd h (by decide +kernel)⟩
 refine (w0s awP.v).mono fun v V5 _ hv => ⟨CxV.mk 4616189618054758400 4616189618054758400, hv, fun _ => ?_, fun h => absurd h (by decide +kernel)⟩
 have e1 : awB.invB.v.im.lo = 13826050856027422720 := by show j04 awB.invB.im.lo = _; rw [A0u.1]; decide
 have e2 : awB.invB.v.re.hi = 4607182418800017408 := by show j04 awB.invB.re.hi = _; rw [A0u.2]; decide
 refine (u0s awB.invB.v).mono fun v V6 _ hv => ⟨CxV.mk awB.invB.v.re.lo 13826050856027422720, by rw [hv, e1], fun _ => ?_, fun h => absurd h (by decide +kernel)⟩
 refine (w0s awB.invB.v).mono fun v V7 _ hv => ⟨CxV.mk 4607182418800017408 awB.invB.v.im.hi, by rw [hv, e2], fun _ => ?_, fun h => absurd h (by decide +kernel)⟩
 refine (x06 ok).mono fun v V8 _ hv => ⟨true, by rw [hv]; exact congrArg Value.bool O0i.1, fun _ => ?_, fun h => absurd h (by decide)⟩
 exact (x06 okP).mono fun v V9 _ hv => ⟨false, by rw [hv]; exact congrArg Value.bool O0i.2, rfl⟩

theorem z0s {fs : List Field} {s1 s2 : TypeId} {o1 o2 : Nat} (h : fs.map (fun f => (f.name == "_", f.type, f.offset)) = [(false, s1, o1), (false, s2, o2)]) :
 ∃ f1 f2, fs = [f1, f2] ∧ f1.name ≠ "_" ∧ f1.type = s1 ∧ f1.offset = o1 ∧ f2.name ≠ "_" ∧ f2.type = s2 ∧ f2.offset = o2 := by
 match fs with
 | [] => simp at h
 | [_] => simp at h
 | _ :: _ :: _ :: _ => simp at h
 | [f1, f2] =>
   simp only [List.map_cons, List.map_nil, List.cons.injEq, Prod.mk.injEq, and_true] at h
   obtain ⟨⟨a, b, c⟩, a', b', c'⟩ := h
   exact ⟨f1, f2, rfl, by simpa using a, b, c, by simpa using a', b', c'⟩
theorem I0c {P : Program} {w : World} {d : Nat} {xs ys : Array Value} {f1 f2 : Field} {a1 b1 a2 b2 : Value} {r1 r2 : Bool} (h1 : f1.name ≠ "_") (h2 : f2.name ≠ "_")
 (p1 : (part f1.type xs f1.offset).run P w = .ok a1 w) (q1 : (part f1.type ys f1.offset).run P w = .ok b1 w) (p2 : (part f2.type xs f2.offset).run P w = .ok a2 w) (q2 : (part f2.type ys f2.offset).run P w = .ok b2 w)
 (e1 : (Op.equalIn d f1.type a1 b1).run P w = .ok r1 w) (e2 : (Op.equalIn d f2.type a2 b2).run P w = .ok r2 w) : (Op.eqFields d xs ys [f1, f2]).run P w = .ok (r1 && r2) w := by
 simp only [Op.eqFields, Sem.run_bind, Sem.run_ite]
 rw [if_pos h1, p1]
 simp only [Result.andThen_ok]
 rw [q1]
 simp only [Result.andThen_ok]
 rw [e1]
 simp only [Result.andThen_ok]
 cases r1 with
 | false => simp
 | true =>
   rw [if_neg (by decide), if_pos h2, p2]
   simp only [Result.andThen_ok]
   rw [q2]
   simp only [Result.andThen_ok]
   rw [e2]
   simp only [Result.andThen_ok]
   cases r2 <;> simp
theorem o0b {P : Program} {w : World} (d : Nat) (t : TypeId) (a b : Nat) (h : P.underlying t = some (.float .f64)) : (Op.equalIn (d + 1) t (.float .f64 a) (.float .f64 b)).run P w = .ok (FloatKind.f64.format.order a b == some .eq) w := by
 simp [Op.equalIn, run_underlying h]; rfl
def M0f : TypeId := 34
def TBox : TypeId := 36
def O0h : TypeId := 32
theorem A0s {w : World} (d : Nat) (s t : SpV) : (Op.equalIn (d + 2) M0f s.val t.val).run prog w = .ok ((FloatKind.f64.format.order s.lo t.lo == some .eq) && (FloatKind.f64.format.order s.hi t.hi == some .eq)) w := by
 have hm : (prog.fieldsOf M0f).toList.map (fun f => (f.name == "_", f.type, f.offset)) = [(false, O0h, 0), (false, O0h, 1)] := by kernel_rfl
 have hu : prog.underlying M0f = some (.struct (prog.fieldsOf M0f)) := by kernel_rfl
 have hi : prog.underlying O0h = some (.float .f64) := by kernel_rfl
 have hs : prog.stoodInHeld M0f = false := by kernel_rfl
 have hz : U05 prog O0h = some 1 := by kernel_rfl
 have ha : Z0f prog O0h = some false := by kernel_rfl
 have hp : ∀ (cs : Array Value) (off : Nat) (v : Value), cs[off]? = some v → (part O0h cs off).run prog w = .ok v w := by
  intro cs off v h
  simp [part, L0b ha, m04 hz, h]
 obtain ⟨f1, f2, e, n1, t1, o1, n2, t2, o2⟩ := z0s hm
 show (Op.equalIn (d + 1 + 1) M0f (.agg #[.float .f64 s.lo, .float .f64 s.hi]) (.agg #[.float .f64 t.lo, .float .f64 t.hi])).run _ w = _
 rw [run_equalIn_agg w (d + 1) _ _ _ hu hs, e]
 refine I0c n1 n2 (a1 := .float .f64 s.lo) (b1 := .float .f64 t.lo) (a2 := .float .f64 s.hi) (b2 := .float .f64 t.hi) ?_ ?_ ?_ ?_ ?_ ?_
 · rw [t1, o1]; exact hp _ _ _ rfl
 · rw [t1, o1]; exact hp _ _ _ rfl
 · rw [t2, o2]; exact hp _ _ _ rfl
 · rw [t2, o2]; exact hp _ _ _ rfl
 · rw [t1]; exact o0b d _ _ _ hi
 · rw [t2]; exact o0b d _ _ _ hi
theorem a0u {a b : Int} (ha : inK a) (hb : inK b) : (FloatKind.f64.format.order (j04 a) (j04 b) == some .eq) = decide (a = b) := by
 rw [G0k (okK ha) (okK hb), keyK ha, keyK hb]
theorem b0u {b c : Bk} (hb : b.ok) (hc : c.ok) : Go.Vc.EqAt prog TBox b.v.val c.v.val (decide (b = c)) := by
 intro w
 have hm : (prog.fieldsOf TBox).toList.map (fun f => (f.name == "_", f.type, f.offset)) = [(false, M0f, 0), (false, M0f, 2)] := by kernel_rfl
 have hu : prog.underlying TBox = some (.struct (prog.fieldsOf TBox)) := by kernel_rfl
 have hs : prog.stoodInHeld TBox = false := by kernel_rfl
 have hz : U05 prog M0f = some 2 := by kernel_rfl
 have ha : Z0f prog M0f = some true := by kernel_rfl
 have hp : ∀ (cs : Array Value) (off : Nat) (v : Array Value), cs.extract off (off + 2) = v → (part M0f cs off).run prog w = .ok (.agg v) w := by
  intro cs off v h
  simp [part, L0b ha, m04 hz, h]
 obtain ⟨f1, f2, e, n1, t1, o1, n2, t2, o2⟩ := z0s hm
 show (binOp .eql TBox (.agg #[.float .f64 b.v.re.lo, .float .f64 b.v.re.hi, .float .f64 b.v.im.lo, .float .f64 b.v.im.hi]) (.agg #[.float .f64 c.v.re.lo, .float .f64 c.v.re.hi, .float .f64 c.v.im.lo, .float .f64 c.v.im.hi])).run _ w = _
 rw [run_eql_struct, run_equalIn_agg w 9999 _ _ _ hu hs, e]
 rw [I0c n1 n2 (a1 := b.v.re.val) (b1 := c.v.re.val) (a2 := b.v.im.val) (b2 := c.v.im.val) (by rw [t1, o1]; exact hp _ _ _ rfl) (by rw [t1, o1]; exact hp _ _ _ rfl) (by rw [t2, o2]; exact hp _ _ _ rfl) (by rw [t2, o2]; exact hp _ _ _ rfl)
  (by rw [t1]; exact A0s 9997 _ _) (by rw [t2]; exact A0s 9997 _ _)]
 simp only [Result.andThen_ok]
 refine congrArg (fun b => Result.ok (Value.bool b) w) ?_
 show (((FloatKind.f64.format.order (j04 b.re.lo) (j04 c.re.lo) == some .eq) && (FloatKind.f64.format.order (j04 b.re.hi) (j04 c.re.hi) == some .eq)) && ((FloatKind.f64.format.order (j04 b.im.lo) (j04 c.im.lo) == some .eq) && (FloatKind.f64.format.order (j04 b.im.hi) (j04 c.im.hi) == some .eq))) = _
 rw [a0u hb.re.lo hc.re.lo, a0u hb.re.hi hc.re.hi, a0u hb.im.lo hc.im.lo, a0u hb.im.hi hc.im.hi]
 by_cases h : b = c
 · subst h; simp
 · rw [decide_eq_false h]
   refine Bool.eq_false_iff.2 fun hh => h ?_
   simp only [Bool.and_eq_true, decide_eq_true_eq] at hh
   obtain ⟨⟨h1, h2⟩, h3, h4⟩ := hh
   obtain ⟨⟨a1, a2⟩, ⟨a3, a4⟩⟩ := b
   obtain ⟨⟨c1, c2⟩, ⟨c3, c4⟩⟩ := c
   simp only at h1 h2 h3 h4
   rw [h1, h2, h3, h4]
theorem m0j {V : View} {b c : Bk} (hb : b.ok) (hc : c.ok) : a00 prog a0h #[b.v.val, c.v.val] V fun v _ => v = .bool (decide (b = c)) := u0m b.v c.v V _ ⟨_, b0u hb hc, rfl⟩

theorem J0c {V : View} {s t : Sk} (h : s.ok) (k : t.ok) : a00 prog Z0o #[s.v.val, t.v.val] V fun v _ => v = (Sk.v (s.set.add t.set.neg).span).val := by
 refine o0m s.v t.v V _ ((k07 h).mono fun v V1 l1 ⟨a, hv, ha⟩ => ⟨a, hv, (k07 k).mono fun v V2 l2 ⟨b, hv, hb⟩ => ⟨b, hv, ?_⟩⟩)
 refine (n0a hb).mono fun v V3 l3 ⟨d, hv, hd⟩ => ⟨d, hv, ?_⟩
 refine (o0a (ha.le (View.le_trans l2 l3)) hd (d08 h) (H0c (d08 k)) (by omega)).mono fun v V4 l4 ⟨c, hv, hc⟩ => ⟨c, hv, ?_⟩
 exact (q05 hc (j0j (d08 h) (H0c (d08 k))) (by omega)).mono fun v V5 _ hv => ⟨_, hv, rfl⟩
theorem q0l {V : View} {b c : Bk} (h : b.ok) (k : c.ok) : a00 prog U0e #[b.v.val, c.v.val] V fun v _ => v = (b.sub c).v.val :=
 y0p b.v c.v V _ ((J0c h.re k.re).mono fun _ _ _ hv => ⟨_, hv, (J0c h.im k.im).mono fun _ _ _ hv => ⟨_, hv, rfl⟩⟩)
