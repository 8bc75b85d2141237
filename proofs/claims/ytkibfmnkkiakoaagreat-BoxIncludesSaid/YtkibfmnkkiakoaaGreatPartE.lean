/- Part. -/
import Derived.Test.YtkibfmnkkiakoaaGreatPartD
import Derived.Deep.Slices
import Derived.Laws.StructEq
namespace Go.Proofs.YtkibfmnkkiakoaaGreat
open Go Go.Vc Go.Proofs
open Go.Proofs.Tryz (prog)
open Go.IntKind (i64 u64 u32 u8)
theorem z08 {V : View} {s t : Sl} {a b : Nat} (hs : e00 V s a) (ht : e00 V t b) (ha : wn a ≤ 2 ^ 43) (hb : wn b ≤ 2 ^ 43) :
 a00 prog M0q #[s.v, t.v] V fun v V' => ∃ r : Sl, v = r.v ∧ e00 V' r (Nat.gcd a b) := by
 refine Z0o s t V _ (fun _ x V' => ∃ a' b', e00 V' x.t0 a' ∧ e00 V' x.t1 b' ∧ wn a' ≤ 2 ^ 43 ∧ wn b' ≤ 2 ^ 43 ∧ Nat.gcd a' b' = Nat.gcd a b) (fun _ x V' => f0k V' x.t1) ⟨⟨a, b, hs, ht, ha, hb, rfl⟩, ?_⟩
 rintro ⟨x, y⟩ V1 l1 ⟨a', b', hx, hy, wa, wb, hg⟩
 simp only at hx hy ⊢
 have hyl := hy.len
 refine ⟨fun hp => ?_, fun hp => ?_⟩
 · simp only [gt_iff_lt, decide_eq_true_eq] at hp
   have hb0 : b' ≠ 0 := fun e => by rw [← hy.len_zero] at e; omega
   refine (Y02 hx hy wa hb0).mono fun v V2 l2 ⟨q, r, hv, hq, hr⟩ => ⟨q, r, hv, ?_⟩
   have hlt : a' % b' < b' := Nat.mod_lt _ (by omega)
   have hwr : wn (a' % b') ≤ wn b' := K04 (Nat.le_of_lt hlt)
   refine ⟨⟨b', a' % b', hy.le l2, hr, wb, by omega, ?_⟩, ?_⟩
   · rw [Nat.gcd_comm, ← Nat.gcd_rec, Nat.gcd_comm]; exact hg
   · rw [g07 hr, g07 hy]; exact hlt
 · simp only [gt_iff_lt, decide_eq_false_iff_not] at hp
   have hb0 : b' = 0 := hy.len_zero.1 (by omega)
   subst hb0
   rw [Nat.gcd_zero_right] at hg
   exact ⟨x, rfl, by rw [← hg]; exact hx⟩
theorem e01 {V : View} {s : Sl} {n : Nat} (neg : Bool) (h : e00 V s n) :
 a00 prog t07 #[.bool neg, s.v] V fun v V' => ∃ r : WhV, v = r.val ∧ W00 V' r (if neg = true then -(n : Int) else n) := by
 have hl := h.len_zero
 refine M0e neg s V _ ⟨fun hn => ⟨_, rfl, ?_, ?_⟩, fun hn => ⟨_, rfl, ?_, ?_⟩⟩
 · rw [if_pos hn]; simp only [gt_iff_lt, decide_eq_decide]; omega
 · rw [if_pos hn]; simpa using h
 · rw [if_neg (by simp [hn])]; symm; simp only [decide_eq_false_iff_not]; omega
 · rw [if_neg (by simp [hn])]; simpa using h
theorem O04 {V : View} {n : Int} (h0 : -9223372036854775808 ≤ n) (h1 : n ≤ 9223372036854775807) :
 a00 prog F0o #[.int .i64 n] V fun v V' => ∃ r : WhV, v = r.val ∧ W00 V' r n := by
 refine K0l n V _ ⟨fun hn => ?_, fun hn => ?_⟩
 · simp only [decide_eq_true_eq] at hn
   have e : u64.wrap (0 - u64.wrap n) = -n := by rw [u64m, u64m]; omega
   rw [e]
   refine (f04 (by omega) (by omega)).mono fun v V1 _ ⟨r, hv, hr⟩ => ⟨r, hv, _, rfl, by simp [hn], ?_⟩
   have e2 : n.natAbs = (-n).toNat := by omega
   rw [e2]; exact hr
 · simp only [decide_eq_false_iff_not] at hn
   rw [u64w (by omega) (by omega)]
   refine (f04 (by omega) (by omega)).mono fun v V1 _ ⟨r, hv, hr⟩ => ⟨r, hv, _, rfl, by simp [hn], ?_⟩
   have e2 : n.natAbs = n.toNat := by omega
   rw [e2]; exact hr
theorem M01 {V : View} {x : WhV} {a : Int} (h : W00 V x a) :
 a00 prog Y0g #[x.val] V fun v V' => ∃ r : WhV, v = r.val ∧ W00 V' r (-a) := by
 refine N0e x V _ ((e01 (!x.neg) h.2).mono fun v V1 _ ⟨r, hv, hr⟩ => ⟨r, hv, r, rfl, ?_⟩)
 have e : (if (!x.neg) = true then -(a.natAbs : Int) else (a.natAbs : Int)) = -a := by
  rw [h.1]; simp only [Bool.not_eq_true', decide_eq_false_iff_not]; split <;> omega
 rw [e] at hr; exact hr
theorem F01 {V : View} {x y : WhV} {a b : Int} (hx : W00 V x a) (hy : W00 V y b) (ha : wn a.natAbs ≤ 2 ^ 43) (hb : wn b.natAbs ≤ 2 ^ 43) :
 a00 prog w0j #[x.val, y.val] V fun v V' => ∃ r : WhV, v = r.val ∧ W00 V' r (a + b) := by
 have h1 := hx.1
 have h2 := hy.1
 refine s0h x y V _ ⟨fun hs => ?_, fun hs => ?_⟩
 · refine (t0c hx.2 hy.2 (by omega) (by omega)).mono fun v V1 l1 ⟨r, hv, hr⟩ => ⟨r, hv, ?_⟩
   refine (e01 x.neg hr).mono fun v V2 _ ⟨w, hv, hw⟩ => ⟨w, hv, w, rfl, ?_⟩
   have e : (if x.neg = true then -((a.natAbs + b.natAbs : Nat) : Int) else ((a.natAbs + b.natAbs : Nat) : Int)) = a + b := by
    rw [h1, h2] at hs; rw [h1]
    by_cases p : a < 0 <;> by_cases q : b < 0 <;> simp [p, q] at hs ⊢ <;> omega
   rw [e] at hw; exact hw
 · refine (z04 hx.2 hy.2 (by omega)).mono fun v V1 l1 hv => ⟨_, hv, fun hc => ?_, fun hc => ?_⟩
   · have hc : b.natAbs ≤ a.natAbs := by
       rcases Nat.lt_or_ge a.natAbs b.natAbs with h | h
       · rw [if_pos h] at hc; simp at hc
       · exact h
     refine (u0c (hx.2.le l1) (hy.2.le l1) (by omega) hc).mono fun v V2 l2 ⟨r, hv, hr⟩ => ⟨r, hv, ?_⟩
     refine (e01 x.neg hr).mono fun v V3 _ ⟨w, hv, hw⟩ => ⟨w, hv, w, rfl, ?_⟩
     have e : (if x.neg = true then -((a.natAbs - b.natAbs : Nat) : Int) else ((a.natAbs - b.natAbs : Nat) : Int)) = a + b := by
      rw [h1, h2] at hs; rw [h1]
      by_cases p : a < 0 <;> by_cases q : b < 0 <;> simp [p, q] at hs ⊢ <;> omega
     rw [e] at hw; exact hw
   · have hc : a.natAbs ≤ b.natAbs := by
       rcases Nat.lt_or_ge b.natAbs a.natAbs with h | h
       · rw [if_neg (by omega), if_neg (by omega)] at hc; simp at hc
       · exact h
     refine (u0c (hy.2.le l1) (hx.2.le l1) (by omega) hc).mono fun v V2 l2 ⟨r, hv, hr⟩ => ⟨r, hv, ?_⟩
     refine (e01 y.neg hr).mono fun v V3 _ ⟨w, hv, hw⟩ => ⟨w, hv, w, rfl, ?_⟩
     have e : (if y.neg = true then -((b.natAbs - a.natAbs : Nat) : Int) else ((b.natAbs - a.natAbs : Nat) : Int)) = a + b := by
      rw [h1, h2] at hs; rw [h2]
      by_cases p : a < 0 <;> by_cases q : b < 0 <;> simp [p, q] at hs ⊢ <;> omega
     rw [e] at hw; exact hw
theorem H0n (x y a b : Int) (hx : x = if a < 0 then -1 else 1) (hy : y = if b < 0 then -1 else 1) : a * b = x * y * (a.natAbs * b.natAbs : Nat) := by
 have ha : a = x * a.natAbs := by rw [hx]; split <;> omega
 have hb : b = y * b.natAbs := by rw [hy]; split <;> omega
 rw [Int.natCast_mul]
 conv => lhs; rw [ha, hb]
 grind
theorem f01 {V : View} {x y : WhV} {a b : Int} (hx : W00 V x a) (hy : W00 V y b) (ha : wn a.natAbs ≤ 2 ^ 43) (hb : wn b.natAbs ≤ 2 ^ 43) :
 a00 prog X0g #[x.val, y.val] V fun v V' => ∃ r : WhV, v = r.val ∧ W00 V' r (a * b) := by
 refine O0e x y V _ ((B03 hx.2 hy.2 (by omega) (by omega)).mono fun v V1 l1 ⟨r, hv, hr⟩ => ⟨r, hv, ?_⟩)
 refine (e01 (!(x.neg == y.neg)) hr).mono fun v V2 _ ⟨w, hv, hw⟩ => ⟨w, hv, w, rfl, ?_⟩
 have e : (if (!(x.neg == y.neg)) = true then -((a.natAbs * b.natAbs : Nat) : Int) else ((a.natAbs * b.natAbs : Nat) : Int)) = a * b := by
  rw [H0n _ _ a b rfl rfl, hx.1, hy.1]
  by_cases p : a < 0 <;> by_cases q : b < 0 <;> simp [p, q]
 rw [e] at hw; exact hw
theorem S00 {V : View} {x : WhV} {s : Sl} {a : Int} {n : Nat} (hx : W00 V x a) (hs : e00 V s n) (ha : wn a.natAbs ≤ 2 ^ 43) (hb : wn n ≤ 2 ^ 43) :
 a00 prog J0e #[x.val, s.v] V fun v V' => ∃ r : WhV, v = r.val ∧ W00 V' r (a * n) := by
 refine I0d x s V _ ((B03 hx.2 hs (by omega) (by omega)).mono fun v V1 l1 ⟨r, hv, hr⟩ => ⟨r, hv, ?_⟩)
 refine (e01 x.neg hr).mono fun v V2 _ ⟨w, hv, hw⟩ => ⟨w, hv, w, rfl, ?_⟩
 have e : (if x.neg = true then -((a.natAbs * n : Nat) : Int) else ((a.natAbs * n : Nat) : Int)) = a * n := by
  conv => rhs; rw [hx.val]
  rw [Int.natCast_mul]; split
  · rw [Int.neg_mul]
  · rfl
 rw [e] at hw; exact hw
theorem F09 {V : View} {x y : WhV} {a b : Int} (hx : W00 V x a) (hy : W00 V y b) (ha : wn a.natAbs ≤ 2 ^ 43) (hb : wn b.natAbs ≤ 2 ^ 43) :
 a00 prog u0l #[x.val, y.val] V fun v _ => v = .int .i64 (cmpZ a b) := by
 refine J0j x y V _ ((M01 hy).mono fun v V1 l1 ⟨r, hv, hr⟩ => ⟨r, hv, ?_⟩)
 refine (F01 (hx.le l1) hr ha (by rw [Int.natAbs_neg]; exact hb)).mono fun v V2 l2 ⟨w, hv, hw⟩ => ⟨w, hv, fun h => ?_, fun h => ?_⟩
 · have : a + -b < 0 := by have := hw.1; rw [h] at this; simpa using this
   rw [P0h (by omega)]
 · have h1 : ¬ a + -b < 0 := by have := hw.1; rw [h] at this; simpa using this
   have h2 := hw.2.len_zero
   by_cases e : a = b
   · have : w.mag.len = 0 := h2.2 (by omega)
     rw [q0m e, this]; rfl
   · have : w.mag.len ≠ 0 := fun h => by have := h2.1 h; omega
     rw [s0m (by omega)]
     congr 1; split <;> omega
theorem G01 {V : View} {x y : WhV} {s : Sl} {z : Cq} {a b : Int} {d : Nat} (hx : W00 V x a) (hy : W00 V y b) (hs : e00 V s d) (hz : Rep z a b d) (ha : wn a.natAbs ≤ 2 ^ 43) (hb : wn b.natAbs ≤ 2 ^ 43) (hd : wn d ≤ 2 ^ 43) :
 a00 prog A0o #[x.val, y.val, s.v] V fun v V' => ∃ r : NumV, v = r.val ∧ G00 V' r z := by
 obtain ⟨e1, e2, e3⟩ := hz.eqs
 have hp := O0h a b hz.pos
 have d1 := G0a a b d
 have d2 := H0a a b d
 have d3 := S0d a b d
 refine L0l x y s V _ ((z08 hx.2 hy.2 ha hb).mono fun v V1 l1 ⟨r1, hv, h1⟩ => ⟨r1, hv, ?_⟩)
 have hw1 : wn (Nat.gcd a.natAbs b.natAbs) ≤ 2 ^ 43 := by
  rcases Nat.eq_zero_or_pos a.natAbs with h | h
  · rw [h, Nat.gcd_zero_left]; exact hb
  · exact Nat.le_trans (K04 (Nat.le_of_dvd h (Nat.gcd_dvd_left _ _))) ha
 refine (z08 h1 (hs.le l1) hw1 hd).mono fun v V2 l2 ⟨r2, hv, h2⟩ => ⟨r2, hv, ?_⟩
 have hg : Nat.gcd (Nat.gcd a.natAbs b.natAbs) d = gcd3 a b d := rfl
 rw [hg] at h2
 refine (u08 h2).mono fun v V3 l3 hv => ⟨_, hv, fun hn => ?_, fun hn => ?_⟩
 · have l13 := View.le_trans l1 (View.le_trans l2 l3)
   refine (Y02 (hx.2.le l13) (h2.le l3) ha (by omega)).mono fun v V4 l4 ⟨q1, m1, hv, hq1, _⟩ => ⟨q1, m1, hv, ?_⟩
   refine (Y02 (hy.2.le (View.le_trans l13 l4)) (h2.le (View.le_trans l3 l4)) hb (by omega)).mono fun v V5 l5 ⟨q2, m2, hv, hq2, _⟩ => ⟨q2, m2, hv, ?_⟩
   have l45 := View.le_trans l4 l5
   refine (Y02 (hs.le (View.le_trans l13 l45)) (h2.le (View.le_trans l3 l45)) hd (by omega)).mono fun v V6 l6 ⟨q3, m3, hv, hq3, _⟩ => ⟨q3, m3, hv, ?_⟩
   have f1 : W00 V6 (WhV.mk x.neg q1) z.A := ⟨by rw [e1, A07 d1 hp]; exact hx.1, by rw [e1, x04 d1]; exact hq1.le (View.le_trans l5 l6)⟩
   have f2 : W00 V6 (WhV.mk y.neg q2) z.B := ⟨by rw [e2, A07 d2 hp]; exact hy.1, by rw [e2, x04 d2]; exact hq2.le l6⟩
   refine (u08 hq3).mono fun v V7 l7 hv => ⟨_, hv, fun h => ⟨_, rfl, f1.le l7, f2.le l7, ?_⟩, fun h => ⟨_, rfl, f1.le l7, f2.le l7, ?_⟩⟩
   · simp only [decide_eq_true_eq] at h
     rw [e3, if_pos h]; exact e00.zero V7
   · simp only [decide_eq_false_iff_not] at h
     rw [e3, if_neg h]; exact hq3.le l7
 · simp only [Bool.not_eq_false', decide_eq_true_eq] at hn
   rw [hn] at e1 e2 e3
   simp only [Int.natCast_one, Int.ediv_one] at e1 e2
   rw [Nat.div_one] at e3
   have l13 := View.le_trans l1 (View.le_trans l2 l3)
   refine (u08 (hs.le l13)).mono fun v V7 l7 hv => ⟨_, hv, fun h => ⟨_, rfl, ?_, ?_, ?_⟩, fun h => ⟨_, rfl, ?_, ?_, ?_⟩⟩
   · rw [e1]; exact hx.le (View.le_trans l13 l7)
   · rw [e2]; exact hy.le (View.le_trans l13 l7)
   · simp only [decide_eq_true_eq] at h
     rw [e3, if_pos h]; exact e00.zero V7
   · rw [e1]; exact hx.le (View.le_trans l13 l7)
   · rw [e2]; exact hy.le (View.le_trans l13 l7)
   · simp only [decide_eq_false_iff_not] at h
     rw [e3, if_neg h]; exact hs.le (View.le_trans l13 l7)
theorem y00 {V : View} {x : NumV} {z : Cq} (h : G00 V x z) : a00 prog G0q #[x.val] V fun v V' => ∃ r : Sl, v = r.v ∧ e00 V' r z.D := by
 have hu := h.under
 have hl := hu.len_zero
 have hD := z.D_pos
 refine a0p x V _ ⟨fun h0 => ?_, fun h0 => ?_⟩
 · have h0 : x.under.len = 0 := by have : (x.under.len : Int) = 0 := (by simpa using h0); omega
   intro b V1 l1 _ hb
   have hz := hl.1 h0
   have h1 : z.D = 1 := by split at hz <;> omega
   refine ⟨_, rfl, ?_⟩
   rw [h1]
   have : dig 1 = [1] := by rw [Z02 (by omega)]; simp [b02]
   unfold e00; rw [this]
   exact z00.of_block (by rw [hb]; rfl) rfl (Nat.le_refl _) (by intro d hd; simp at hd; omega)
 · have h0 : x.under.len ≠ 0 := by have : ¬ (x.under.len : Int) = 0 := (by simpa using h0); omega
   refine ⟨_, rfl, ?_⟩
   have hz : ¬ (if z.D = 1 then 0 else z.D) = 0 := fun e => h0 (hl.2 e)
   split at hz
   · omega
   · rename_i h1; rw [if_neg h1] at hu; exact hu
theorem y0c {V : View} {n : Int} (h0 : -9223372036854775808 ≤ n) (h1 : n ≤ 9223372036854775807) :
 a00 prog J0q #[.int .i64 n] V fun v V' => ∃ r : NumV, v = r.val ∧ G00 V' r ⟨(n : Rat), 0⟩ := by
 obtain ⟨e1, e2, e3⟩ := G05 n
 refine b0p n V _ ((O04 h0 h1).mono fun v V1 _ ⟨r, hv, hr⟩ => ⟨r, hv, _, rfl, by rw [e1]; exact hr, by rw [e2]; exact W00.zero _, by rw [e3]; exact e00.zero _⟩)
theorem wn64 {n : Nat} (h : n ≤ 18446744073709551615) : wn n ≤ 2 ^ 43 := by
 have : wn n ≤ 2 := M02 (by omega)
 omega
theorem z0c {V : View} {p q d : Int} (p0 : -9223372036854775808 ≤ p) (p1 : p ≤ 9223372036854775807) (q0 : -9223372036854775808 ≤ q) (q1 : q ≤ 9223372036854775807) (d0 : -9223372036854775808 ≤ d) (d1 : d ≤ 9223372036854775807) (hd : d ≠ 0) :
 a00 prog C0q #[.int .i64 p, .int .i64 q, .int .i64 d] V fun v V' => ∃ r : NumV, v = .tuple #[r.val, .int .i64 0] ∧ G00 V' r ⟨(p : Rat) / (d : Rat), (q : Rat) / (d : Rat)⟩ := by
 refine c0p p q d V _ ⟨fun h => ?_, fun _ => ?_⟩
 · exact absurd (by simpa using h) hd
 refine (O04 p0 p1).mono fun v V1 l1 ⟨a, hv, ha⟩ => ⟨a, hv, ?_⟩
 refine (O04 q0 q1).mono fun v V2 l2 ⟨b, hv, hb⟩ => ⟨b, hv, ?_⟩
 refine (O04 d0 d1).mono fun v V3 l3 ⟨c, hv, hc⟩ => ⟨c, hv, fun hn => ?_, fun hn => ?_⟩
 · have hneg : d < 0 := by have := hc.1; rw [hn] at this; simpa using this.symm
   refine (M01 (ha.le (View.le_trans l2 l3))).mono fun v V4 l4 ⟨a', hv, ha'⟩ => ⟨a', hv, ?_⟩
   refine (M01 (hb.le (View.le_trans l3 l4))).mono fun v V5 l5 ⟨b', hv, hb'⟩ => ⟨b', hv, ?_⟩
   refine (G01 (ha'.le l5) hb' (hc.2.le (View.le_trans l4 l5)) ?_ (wn64 (by omega)) (wn64 (by omega)) (wn64 (by omega))).mono fun v V6 l6 ⟨r, hv, hr⟩ => ⟨r, hv, r, rfl, hr⟩
   have e : ((d.natAbs : Nat) : Rat) = -(d : Rat) := by
    have : (d.natAbs : Int) = -d := by omega
    rw [← Rat.intCast_natCast, this]; push_cast; rfl
   refine ⟨by omega, ?_, ?_⟩ <;> (simp only [e]; push_cast; rw [Rat.div_def, Rat.div_def]; grind)
 · have hpos : ¬ d < 0 := by have := hc.1; rw [hn] at this; simpa using this.symm
   refine (G01 (ha.le (View.le_trans l2 l3)) (hb.le l3) hc.2 ?_ (wn64 (by omega)) (wn64 (by omega)) (wn64 (by omega))).mono fun v V6 l6 ⟨r, hv, hr⟩ => ⟨r, hv, r, rfl, hr⟩
   have e : ((d.natAbs : Nat) : Rat) = (d : Rat) := by
    have : (d.natAbs : Int) = d := by omega
    rw [← Rat.intCast_natCast, this]
   refine ⟨by omega, ?_, ?_⟩ <;> simp only [e]
theorem Cq.wA {z : Cq} (h : z.sz ≤ 2 ^ 40) : wn z.A.natAbs ≤ 2 ^ 35 := s04 (by have := z.szA; omega)
theorem Cq.wB {z : Cq} (h : z.sz ≤ 2 ^ 40) : wn z.B.natAbs ≤ 2 ^ 35 := s04 (by have := z.szB; omega)
theorem Cq.wD {z : Cq} (h : z.sz ≤ 2 ^ 40) : wn z.D ≤ 2 ^ 35 := s04 (by have := z.szD; omega)
theorem O01 {a b : Int} {k : Nat} (ha : wn a.natAbs ≤ k) (hb : wn b.natAbs ≤ k) : wn (a * b).natAbs ≤ 2 * k := by
 rw [Int.natAbs_mul]; have := C05 a.natAbs b.natAbs; omega
theorem O06 {a b : Int} {k : Nat} (ha : wn a.natAbs ≤ k) (hb : wn b.natAbs ≤ k) : wn (a + b).natAbs ≤ k + 1 := by
 have := K04 (Int.natAbs_add_le a b); have := e0k a.natAbs b.natAbs; omega
theorem N0r {a : Int} {k : Nat} (ha : wn a.natAbs ≤ k) : wn (-a).natAbs ≤ k := by rw [Int.natAbs_neg]; exact ha
theorem I02 {V : View} {x y : NumV} {z w : Cq} (hx : G00 V x z) (hy : G00 V y w) (hz : z.sz ≤ 2 ^ 40) (hw : w.sz ≤ 2 ^ 40) :
 a00 prog o0j #[x.val, y.val] V fun v V' => ∃ r : NumV, v = r.val ∧ G00 V' r (z + w) := by
 have zA := Cq.wA hz; have zB := Cq.wB hz; have zD := Cq.wD hz
 have wA := Cq.wA hw; have wB := Cq.wB hw; have wD := Cq.wD hw
 have zD' : wn (z.D : Int).natAbs ≤ 2 ^ 35 := zD
 have wD' : wn (w.D : Int).natAbs ≤ 2 ^ 35 := wD
 have s1 := O01 zA wD'; have s2 := O01 wA zD'; have s3 := O01 zB wD'; have s4 := O01 wB zD'
 have s5 := O06 s1 s2; have s6 := O06 s3 s4
 have s7 := C05 z.D w.D
 refine d0p x y V _ ((y00 hx).mono fun v V1 l1 ⟨r1, hv, h1⟩ => ⟨r1, hv, ?_⟩)
 replace hx := hx.le l1; replace hy := hy.le l1
 refine (y00 hy).mono fun v V2 l2 ⟨r2, hv, h2⟩ => ⟨r2, hv, ?_⟩
 replace hx := hx.le l2; replace hy := hy.le l2; replace h1 := h1.le l2
 refine (S00 hx.re h2 (by omega) (by omega)).mono fun v V3 l3 ⟨r3, hv, h3⟩ => ⟨r3, hv, ?_⟩
 replace hx := hx.le l3; replace hy := hy.le l3; replace h1 := h1.le l3; replace h2 := h2.le l3
 refine (S00 hy.re h1 (by omega) (by omega)).mono fun v V4 l4 ⟨r4, hv, h4⟩ => ⟨r4, hv, ?_⟩
 replace hx := hx.le l4; replace hy := hy.le l4; replace h1 := h1.le l4; replace h2 := h2.le l4; replace h3 := h3.le l4
 refine (F01 h3 h4 (by omega) (by omega)).mono fun v V5 l5 ⟨r5, hv, h5⟩ => ⟨r5, hv, ?_⟩
 replace hx := hx.le l5; replace hy := hy.le l5; replace h1 := h1.le l5; replace h2 := h2.le l5
 refine (S00 hx.im h2 (by omega) (by omega)).mono fun v V6 l6 ⟨r6, hv, h6⟩ => ⟨r6, hv, ?_⟩
 replace hy := hy.le l6; replace h1 := h1.le l6; replace h2 := h2.le l6; replace h5 := h5.le l6
 refine (S00 hy.im h1 (by omega) (by omega)).mono fun v V7 l7 ⟨r7, hv, h7⟩ => ⟨r7, hv, ?_⟩
 replace h1 := h1.le l7; replace h2 := h2.le l7; replace h5 := h5.le l7; replace h6 := h6.le l7
 refine (F01 h6 h7 (by omega) (by omega)).mono fun v V8 l8 ⟨r8, hv, h8⟩ => ⟨r8, hv, ?_⟩
 replace h1 := h1.le l8; replace h2 := h2.le l8; replace h5 := h5.le l8
 refine (B03 h1 h2 (by omega) (by omega)).mono fun v V9 l9 ⟨r9, hv, h9⟩ => ⟨r9, hv, ?_⟩
 exact (G01 (h5.le l9) (h8.le l9) h9 (z.canon.rep.add w.canon.rep) (by omega) (by omega) (by omega)).mono fun v V10 _ ⟨r, hv, hr⟩ => ⟨r, hv, r, rfl, hr⟩
theorem A08 {V : View} {x : NumV} {z : Cq} (hx : G00 V x z) : a00 prog q0j #[x.val] V fun v V' => ∃ r : NumV, v = r.val ∧ G00 V' r (-z) := by
 obtain ⟨e1, e2, e3⟩ := z.neg_eqs
 refine e0p x V _ ((M01 hx.re).mono fun v V1 l1 ⟨r1, hv, h1⟩ => ⟨r1, hv, ?_⟩)
 exact (M01 (hx.im.le l1)).mono fun v V2 l2 ⟨r2, hv, h2⟩ => ⟨r2, hv, _, rfl, by rw [e1]; exact h1.le l2, by rw [e2]; exact h2, by rw [e3]; exact hx.under.le (View.le_trans l1 l2)⟩
theorem m0i {V : View} {x : NumV} {z : Cq} (hx : G00 V x z) : a00 prog S0f #[x.val] V fun v V' => ∃ r : NumV, v = r.val ∧ G00 V' r z.conj := by
 obtain ⟨e1, e2, e3⟩ := z.conj_eqs
 exact N0l x V _ ((M01 hx.im).mono fun v V1 l1 ⟨r1, hv, h1⟩ => ⟨r1, hv, _, rfl, by rw [e1]; exact hx.re.le l1, by rw [e2]; exact h1, by rw [e3]; exact hx.under.le l1⟩)
theorem B08 {V : View} {x y : NumV} {z w : Cq} (hx : G00 V x z) (hy : G00 V y w) (hz : z.sz ≤ 2 ^ 40) (hw : w.sz ≤ 2 ^ 40) :
 a00 prog n0j #[x.val, y.val] V fun v V' => ∃ r : NumV, v = r.val ∧ G00 V' r (z - w) := by
 refine f0p x y V _ ((A08 hy).mono fun v V1 l1 ⟨r1, hv, h1⟩ => ⟨r1, hv, ?_⟩)
 rw [Cq.sub_eq]
 exact (I02 (hx.le l1) h1 hz (by rw [L08]; exact hw)).mono fun v V2 _ ⟨r, hv, hr⟩ => ⟨r, hv, r, rfl, hr⟩
theorem z01 {V : View} {x y : NumV} {z w : Cq} (hx : G00 V x z) (hy : G00 V y w) (hz : z.sz ≤ 2 ^ 40) (hw : w.sz ≤ 2 ^ 40) :
 a00 prog p0j #[x.val, y.val] V fun v V' => ∃ r : NumV, v = r.val ∧ G00 V' r (z * w) := by
 have zA := Cq.wA hz; have zB := Cq.wB hz; have zD := Cq.wD hz
 have wA := Cq.wA hw; have wB := Cq.wB hw; have wD := Cq.wD hw
 have s1 := O01 zA wA; have s2 := O01 zB wB; have s2' := N0r s2; have s3 := O01 zA wB; have s4 := O01 zB wA
 have s5 := O06 s1 s2'; have s6 := O06 s3 s4
 have s7 := C05 z.D w.D
 refine g0p x y V _ ((f01 hx.re hy.re (by omega) (by omega)).mono fun v V1 l1 ⟨r1, hv, h1⟩ => ⟨r1, hv, ?_⟩)
 replace hx := hx.le l1; replace hy := hy.le l1
 refine (f01 hx.im hy.im (by omega) (by omega)).mono fun v V2 l2 ⟨r2, hv, h2⟩ => ⟨r2, hv, ?_⟩
 replace hx := hx.le l2; replace hy := hy.le l2; replace h1 := h1.le l2
 refine (M01 h2).mono fun v V3 l3 ⟨r3, hv, h3⟩ => ⟨r3, hv, ?_⟩
 replace hx := hx.le l3; replace hy := hy.le l3; replace h1 := h1.le l3
 refine (F01 h1 h3 (by omega) (by omega)).mono fun v V4 l4 ⟨r4, hv, h4⟩ => ⟨r4, hv, ?_⟩
 replace hx := hx.le l4; replace hy := hy.le l4
 refine (f01 hx.re hy.im (by omega) (by omega)).mono fun v V5 l5 ⟨r5, hv, h5⟩ => ⟨r5, hv, ?_⟩
 replace hx := hx.le l5; replace hy := hy.le l5; replace h4 := h4.le l5
 refine (f01 hx.im hy.re (by omega) (by omega)).mono fun v V6 l6 ⟨r6, hv, h6⟩ => ⟨r6, hv, ?_⟩
 replace hx := hx.le l6; replace hy := hy.le l6; replace h4 := h4.le l6; replace h5 := h5.le l6
 refine (F01 h5 h6 (by omega) (by omega)).mono fun v V7 l7 ⟨r7, hv, h7⟩ => ⟨r7, hv, ?_⟩
 replace hx := hx.le l7; replace hy := hy.le l7; replace h4 := h4.le l7
 refine (y00 hx).mono fun v V8 l8 ⟨r8, hv, h8⟩ => ⟨r8, hv, ?_⟩
 replace hy := hy.le l8; replace h4 := h4.le l8; replace h7 := h7.le l8
 refine (y00 hy).mono fun v V9 l9 ⟨r9, hv, h9⟩ => ⟨r9, hv, ?_⟩
 replace h4 := h4.le l9; replace h7 := h7.le l9; replace h8 := h8.le l9
 refine (B03 h8 h9 (by omega) (by omega)).mono fun v V10 l10 ⟨r10, hv, h10⟩ => ⟨r10, hv, ?_⟩
 refine (G01 (h4.le l10) (h7.le l10) h10 ?_ (by omega) (by omega) (by omega)).mono fun v V11 _ ⟨r, hv, hr⟩ => ⟨r, hv, r, rfl, hr⟩
 rw [← Int.sub_eq_add_neg]; exact z.canon.rep.mul w.canon.rep
theorem X0a {V : View} {x : NumV} {z : Cq} (hx : G00 V x z) : a00 prog y0o #[x.val] V fun v _ => v = .bool (decide (z.im = 0)) := by
 refine M0l x V _ ?_
 have h1 := hx.im.2.len_zero
 have h2 := Cq.B_zero (z := z)
 congr 1
 by_cases e : z.im = 0
 · have : x.im.mag.len = 0 := h1.2 (by rw [h2.2 e]; rfl)
   simp [e, this]
 · have : x.im.mag.len ≠ 0 := fun h => e (h2.1 (by have := h1.1 h; omega))
   simp only [e, decide_false, beq_eq_false_iff_ne, ne_eq]; omega
theorem C08 {V : View} {x y : NumV} {z w : Cq} (hx : G00 V x z) (hy : G00 V y w) (hz : z.sz ≤ 2 ^ 40) (hw : w.sz ≤ 2 ^ 40) :
 a00 prog L0q #[x.val, y.val] V fun v _ => v = .int .i64 (z.cmp w) := by
 have zA := Cq.wA hz; have zB := Cq.wB hz; have zD := Cq.wD hz
 have wA := Cq.wA hw; have wB := Cq.wB hw; have wD := Cq.wD hw
 have zD' : wn (z.D : Int).natAbs ≤ 2 ^ 35 := zD
 have wD' : wn (w.D : Int).natAbs ≤ 2 ^ 35 := wD
 have s1 := O01 zA wD'; have s2 := O01 wA zD'; have s3 := O01 zB wD'; have s4 := O01 wB zD'
 have c1 : cmpZ (z.A * w.D) (w.A * z.D) = cmpR z.re w.re := by rw [L0t z.D_pos w.D_pos, ← z.canon.rep.re, ← w.canon.rep.re]
 have c2 : cmpZ (z.B * w.D) (w.B * z.D) = cmpR z.im w.im := by rw [L0t z.D_pos w.D_pos, ← z.canon.rep.im, ← w.canon.rep.im]
 refine i0p x y V _ ((y00 hy).mono fun v V1 l1 ⟨r1, hv, h1⟩ => ⟨r1, hv, ?_⟩)
 replace hx := hx.le l1; replace hy := hy.le l1
 refine (S00 hx.re h1 (by omega) (by omega)).mono fun v V2 l2 ⟨r2, hv, h2⟩ => ⟨r2, hv, ?_⟩
 replace hx := hx.le l2; replace hy := hy.le l2
 refine (y00 hx).mono fun v V3 l3 ⟨r3, hv, h3⟩ => ⟨r3, hv, ?_⟩
 replace hx := hx.le l3; replace hy := hy.le l3; replace h2 := h2.le l3
 refine (S00 hy.re h3 (by omega) (by omega)).mono fun v V4 l4 ⟨r4, hv, h4⟩ => ⟨r4, hv, ?_⟩
 replace hx := hx.le l4; replace hy := hy.le l4; replace h2 := h2.le l4
 refine (F09 h2 h4 (by omega) (by omega)).mono fun v V5 l5 hv => ⟨_, hv, fun hn => ?_, fun hn => ?_⟩
 · rw [c1] at hn ⊢
   have hn : cmpR z.re w.re ≠ 0 := by simpa using hn
   unfold Cq.cmp; rw [if_pos hn]
 · rw [c1] at hn
   have hn : ¬ cmpR z.re w.re ≠ 0 := by simpa using hn
   replace hx := hx.le l5; replace hy := hy.le l5
   refine (y00 hy).mono fun v V6 l6 ⟨r6, hv, h6⟩ => ⟨r6, hv, ?_⟩
   replace hx := hx.le l6; replace hy := hy.le l6
   refine (S00 hx.im h6 (by omega) (by omega)).mono fun v V7 l7 ⟨r7, hv, h7⟩ => ⟨r7, hv, ?_⟩
   replace hx := hx.le l7; replace hy := hy.le l7
   refine (y00 hx).mono fun v V8 l8 ⟨r8, hv, h8⟩ => ⟨r8, hv, ?_⟩
   replace hx := hx.le l8; replace hy := hy.le l8; replace h7 := h7.le l8
   refine (S00 hy.im h8 (by omega) (by omega)).mono fun v V9 l9 ⟨r9, hv, h9⟩ => ⟨r9, hv, ?_⟩
   replace h7 := h7.le l9
   refine (F09 h7 h9 (by omega) (by omega)).mono fun v V10 l10 hv => ⟨_, hv, ?_⟩
   unfold Cq.cmp; rw [if_neg hn, c2]

def ratQ (r : RatV) : Cq := if r.den = 0 then ⟨(r.re : Rat), (r.im : Rat)⟩ else ⟨(r.re : Rat) / (r.den : Rat), (r.im : Rat) / (r.den : Rat)⟩
def ratI (r : RatV) : Prop := (-9223372036854775808 ≤ r.re ∧ r.re ≤ 9223372036854775807) ∧ (-9223372036854775808 ≤ r.im ∧ r.im ≤ 9223372036854775807) ∧ (-9223372036854775808 ≤ r.den ∧ r.den ≤ 9223372036854775807)
def ratC (_ : View) (x : List Value) (r : RatV) : Prop := x = r.val.cells.toList
def O0r (V : View) (s : Sl) (rs : List RatV) : Prop := E02 3 ratC V s rs
theorem O0r.le {V V' : View} (hle : V.le V') {s : Sl} {rs : List RatV} (h : O0r V s rs) : O0r V' s rs := E02.le (P := ratC) (V := V) (V' := V') (fun _ _ h => h) hle h
theorem A0c {V : View} {r : RatV} (h : ratI r) : a00 prog y0q #[r.val] V fun v V' => ∃ x : NumV, v = x.val ∧ G00 V' x (ratQ r) := by
 obtain ⟨⟨a1, a2⟩, ⟨b1, b2⟩, ⟨c1, c2⟩⟩ := h
 refine j0p r V _ ⟨fun h0 => ?_, fun h0 => ?_⟩
 · have h0 : r.den = 0 := by simpa using h0
   refine (z0c a1 a2 b1 b2 (by omega) (by omega) (by omega)).mono fun v V1 _ ⟨x, hv, hx⟩ => ⟨x, 0, hv, x, rfl, ?_⟩
   have e : ratQ r = ⟨(r.re : Rat) / ((1 : Int) : Rat), (r.im : Rat) / ((1 : Int) : Rat)⟩ := by
    unfold ratQ; rw [if_pos h0]; simp only [Rat.div_def, Cq.mk.injEq]; constructor <;> grind
   rw [e]; exact hx
 · have h0 : r.den ≠ 0 := by simpa using h0
   refine (z0c a1 a2 b1 b2 c1 c2 h0).mono fun v V1 _ ⟨x, hv, hx⟩ => ⟨x, 0, hv, x, rfl, ?_⟩
   unfold ratQ; rw [if_neg h0]; exact hx
end Go.Proofs.YtkibfmnkkiakoaaGreat
namespace Go.Proofs.YtkibfmnkkiakoaaGreat
open Go Go.Vc Go.Proofs Go.ChangeShapes Go.RowKit
section
variable {H : Type} {enc : TypeId × Value → H} {P : Program} {w : World} {base : Nat} {spare : Nat → Bool} {held : Bool}
end
theorem a00.fits {P : Program} {f : FuncId} {args : Array Value} {r : Value} {V : View} (h : a00 P f args V fun v _ => v = r) {w : World} (hw : V.In w) :
 Calls P f args w fun e w' => e = .returned r ∧ Below w.heap.size w w' :=
 (h w hw).mono fun _ _ ⟨_, _, he, _, _, _, hb, hr⟩ => ⟨by rw [he, hr], hb⟩
theorem Y0a {H : Type} {enc : TypeId × Value → H} {P : Program} (hl : laidOutB P = true) {W W' : World} (hb : Below W.heap.size W W') :
 ∀ {ts : List TypeId} {vs : List Value} {ds : List (DataW H)} {ps : List MemPlace}, (∀ t ∈ ts, P.readableRec t = true ∧ t < P.types.size) → (∀ p ∈ ps, p.block < W.heap.size) →
 DataW.TrodAll enc P W 0 (fun _ => true) true ts vs ds ps → DataW.TrodAll enc P W' 0 (fun b => decide (b < W.heap.size)) true ts vs ds ps
 | [], [], [], _, _, _, h => h
 | t :: ts, v :: vs, d :: ds, ps, ht, hlt, ⟨p, q, h1, h2, e⟩ => by
   subst e
   exact ⟨p, q, Below.trod hl (ht t (by simp)).1 (ht t (by simp)).2 h1 hb (fun x hx => hlt x (by simp [hx])),
    Y0a hl hb (fun t' ht' => ht t' (by simp [ht'])) (fun x hx => hlt x (by simp [hx])) h2, rfl⟩
 | [], [], _ :: _, _, _, _, h => h.elim
 | [], _ :: _, _, _, _, _, h => h.elim
 | _ :: _, [], _, _, _, _, h => h.elim
 | _ :: _, _ :: _, [], _, _, _, h => h.elim
theorem C0k {H : Type} {enc : TypeId × Value → H} {P : Program} {f : Func} {s : ChangeSpec} {apart fresh handsOn : Bool} {W W' : World} {args : Array Value} {v : Value} {ds : List (DataW H)} {before : List MemPlace}
 (hl : laidOutB P = true) (ht : ∀ t ∈ f.params.toList, P.readableRec t = true ∧ t < P.types.size)
 (hW : DataW.Whole enc P f.params.toList s.vars apart W args.toList ds [] before) (hA : DataW.TrodAll enc P W 0 (fun _ => true) true f.params.toList args.toList ds before)
 (hres : ∀ (b : Nat) (sp : Nat → Bool) (hd : Bool), DataW.TrodAll enc P W' b sp hd f.resultTypes.toList (v.resultList f.resultTypes.size) (s.fn H (ds ++ [])).results [])
 (hargs : (s.fn H (ds ++ [])).args = ds) (hvars : ∀ sp : Nat → Bool, DataW.TrodVars enc P W' sp s.vars (s.fn H (ds ++ [])).vars []) (hb : Below W.heap.size W W') : s.post enc P f apart fresh handsOn false W args v W' := by
 refine ⟨ds, [], before, [], before, [], hW, hres _ _ _, ?_, hvars _, World.keptBut_mono (fun p hp => ⟨hp, .inr (.inl hp)⟩) (hb.frame (· ∈ before)), fun h => Bool.noConfusion h⟩
 rw [hargs]
 exact Y0a hl hb ht (fun p hp => hW.lt p hp) hA
end Go.Proofs.YtkibfmnkkiakoaaGreat
namespace Go.Vc
open Go
theorem T0k {w : World} : View.In (fun _ => none) w := by intro b cs h; cases h
end Go.Vc
namespace Go.Proofs.YtkibfmnkkiakoaaGreat
open Go Go.Vc Go.Proofs Go.ChangeShapes Go.RowKit
inductive FK where
 | int (k : IntKind)
 | bool
def FK.ok : FK → Value → Prop
 | .int k, v => ∃ n, v = .int k n ∧ (Lit.int k n).wf = true
 | .bool, v => ∃ b, v = .bool b
def Z0a : List FK → List Value → Prop
 | [], [] => True
 | f :: fs, v :: vs => f.ok v ∧ Z0a fs vs
 | _, _ => False
theorem Z0a.append : ∀ {l l' : List FK} {v v' : List Value}, Z0a l v → Z0a l' v' → Z0a (l ++ l') (v ++ v')
 | [], _, [], _, _, h => h
 | _ :: _, _, _ :: _, _, ⟨h1, h2⟩, h => ⟨h1, Z0a.append h2 h⟩
 | [], _, _ :: _, _, h, _ => h.elim
 | _ :: _, _, [], _, h, _ => h.elim
theorem Z0a.length : ∀ {l : List FK} {v : List Value}, Z0a l v → v.length = l.length
 | [], [], _ => rfl
 | _ :: _, _ :: _, ⟨_, h⟩ => by simp [Z0a.length h]
 | [], _ :: _, h => h.elim
 | _ :: _, [], h => h.elim
def D0k (P : Program) (F : TypeId → Option (List FK)) : List Field → Nat → Option (List FK)
 | [], _ => some []
 | f :: fs, off => match F f.type, D0k P F fs (off + P.cellsOf f.type) with
   | some l, some r => if f.offset = off ∧ l.length = P.cellsOf f.type then some (l ++ r) else none
   | _, _ => none
def s0f (P : Program) : Nat → TypeId → Option (List FK)
 | 0, _ => none
 | d + 1, t => match P.underlying t with
   | some (.int k) => some [.int k]
   | some .bool => some [.bool]
   | some (.struct fs) => match D0k P (s0f P d) fs.toList 0 with
     | some l => if l.length = P.cellsOf t then some l else none
     | none => none
   | some (.array n e) => match s0f P d e with
     | some l => if l.length = P.cellsOf e ∧ n * l.length = P.cellsOf t then some (List.replicate n l).flatten else none
     | none => none
   | _ => none
section
variable {H : Type} {enc : TypeId × Value → H} {P : Program} {w : World} {base : Nat} {spare : Nat → Bool} {held : Bool}
theorem f0e {F : TypeId → Option (List FK)} {n : Nat} (hF : ∀ t l cs x, F t = some l → DataW.trod enc P w base spare held n t cs = some x → Z0a l cs) {cs : List Value} {xs : List (DataW H × List MemPlace)} {all : List Field} (hxs : xs.length = all.length)
 (hf : ∀ (i : Nat) (f : Field), all[i]? = some f → DataW.trod enc P w base spare held n f.type ((cs.drop f.offset).take (P.cellsOf f.type)) = xs[i]?) :
 ∀ (fs pre : List Field) (off : Nat) (l : List FK), all = pre ++ fs → D0k P F fs off = some l → cs.length = off + l.length → Z0a l (cs.drop off)
 | [], pre, off, l, he, h, hl => by
   simp only [D0k, Option.some.injEq] at h
   subst h
   rw [List.drop_eq_nil_of_le (by simp at hl; omega)]; trivial
 | f :: fs, pre, off, l, he, h, hl => by
   simp only [D0k] at h
   split at h
   · rename_i l1 r h1 h2
     split at h
     · rename_i hc
       obtain ⟨rfl, hlen⟩ := hc
       simp only [Option.some.injEq] at h
       subst h
       have hi : all[pre.length]? = some f := by rw [he]; simp
       have g := hf _ f hi
       have hx : pre.length < xs.length := by rw [hxs, he]; simp
       rw [List.getElem?_eq_getElem hx] at g
       have a1 := hF _ _ _ _ h1 g
       have a2 := f0e hF hxs hf fs (pre ++ [f]) (f.offset + P.cellsOf f.type) r (by rw [he]; simp) h2 (by rw [List.length_append] at hl; omega)
       have e : cs.drop f.offset = (cs.drop f.offset).take (P.cellsOf f.type) ++ cs.drop (f.offset + P.cellsOf f.type) := by
        rw [← List.drop_drop, List.take_append_drop]
       rw [e]; exact a1.append a2
     · simp at h
   · simp at h
theorem T0b : ∀ (d : Nat) (fuel : Nat) (t : TypeId) (l : List FK) (cs : List Value) (x : DataW H × List MemPlace), s0f P d t = some l → DataW.trod enc P w base spare held fuel t cs = some x → Z0a l cs
 | 0, _, _, _, _, _, h, _ => by simp [s0f] at h
 | d + 1, fuel, t, l, cs, x, h, hx => by
   simp only [s0f] at h
   split at h
   · rename_i k hu
     obtain ⟨n, rfl, _, hw⟩ := DataW.trod_int hu hx
     simp only [Option.some.injEq] at h
     subst h
     exact ⟨⟨n, rfl, hw⟩, trivial⟩
   · rename_i hu
     obtain ⟨b, rfl, _⟩ := DataW.trod_bool hu hx
     simp only [Option.some.injEq] at h
     subst h
     exact ⟨⟨b, rfl⟩, trivial⟩
   · rename_i fs hu
     obtain ⟨xs, n, rfl, _, hl, hxs, hf⟩ := DataW.trod_struct hu hx
     split at h
     · rename_i l1 h1
       split at h
       · rename_i hc
         simp only [Option.some.injEq] at h
         subst h
         have := f0e (F := s0f P d) (fun t l cs x h1 h2 => T0b d n t l cs x h1 h2) (all := fs.toList) (by simpa using hxs) (fun i f hi => hf i f (by simpa using hi)) fs.toList [] 0 l1 rfl h1 (by omega)
         simpa using this
       · simp at h
     · simp at h
   · rename_i n e hu
     obtain ⟨xs, m, rfl, _, hl, hxs, hf⟩ := DataW.trod_array hu hx
     split at h
     · rename_i l1 h1
       split at h
       · rename_i hc
         obtain ⟨c1, c2⟩ := hc
         simp only [Option.some.injEq] at h
         subst h
         have key : ∀ j, j ≤ n → Z0a (List.replicate j l1).flatten (cs.take (j * P.cellsOf e)) := by
          intro j
          induction j with
          | zero => intro _; simp; trivial
          | succ j ih =>
            intro hj
            have a1 := ih (by omega)
            have g := hf j (by omega)
            rw [List.getElem?_eq_getElem (by omega : j < xs.length)] at g
            have a2 := T0b d m e l1 _ _ h1 g
            have e1 : cs.take ((j + 1) * P.cellsOf e) = cs.take (j * P.cellsOf e) ++ (cs.drop (j * P.cellsOf e)).take (P.cellsOf e) := by
             rw [Nat.add_mul, Nat.one_mul, List.take_add]
            have e2 : (List.replicate (j + 1) l1).flatten = (List.replicate j l1).flatten ++ l1 := by
             rw [List.replicate_succ']; simp
            rw [e1, e2]; exact a1.append a2
         have := key n (Nat.le_refl _)
         rw [List.take_of_length_le (by rw [hl, ← c2, c1]; exact Nat.le_refl _)] at this
         exact this
       · simp at h
     · simp at h
   · simp at h
theorem E0k {t : TypeId} {v : Value} {dd : DataW H} {ps : List MemPlace} {l : List FK} (hk : s0f P 8 t = some l) (h : DataW.Trod enc P w base spare held t v dd ps) : Z0a l v.cells.toList := by
 obtain ⟨fuel, h⟩ := h
 exact T0b 8 fuel t l _ _ hk h
end
theorem B0c {v : Value} {l : List Value} (h : v.cells.toList = l) (hl : l.length ≠ 1) : v = .agg l.toArray := by
 cases v with
 | agg cs => have : cs.toList = l := h
             rw [← this]
 | _ => exact absurd (by rw [← h]; rfl) hl

theorem U64.of {n : Int} (h : (Lit.int .u64 n).wf = true) : U64 n := by
 have h := bounds_u64 h
 exact ⟨h.1, by have := h.2; omega⟩
section
variable {H : Type} {enc : TypeId × Value → H} {P : Program} {w : World} {base : Nat} {spare : Nat → Bool} {held : Bool} {t : TypeId} {v : Value} {dd : DataW H} {ps : List MemPlace}
theorem P0r (hk : s0f P 8 t = some [.int .u64, .int .u64, .int .u64, .int .u64]) (h : DataW.Trod enc P w base spare held t v dd ps) :
 ∃ a b c d : Int, v = .agg #[.int .u64 a, .int .u64 b, .int .u64 c, .int .u64 d] ∧ U64 a ∧ U64 b ∧ U64 c ∧ U64 d := by
 have h := E0k hk h
 match hc : v.cells.toList, h with
 | [_, _, _, _], ⟨⟨n, e1, a1⟩, ⟨m, e2, a2⟩, ⟨k, e3, a3⟩, ⟨j, e4, a4⟩, _⟩ =>
   subst e1; subst e2; subst e3; subst e4
   exact ⟨n, m, k, j, B0c hc (by simp), U64.of a1, U64.of a2, U64.of a3, U64.of a4⟩
theorem u0g (hk : s0f P 8 t = some [.int .u64, .int .u64, .int .u64, .int .u64]) (h : DataW.Trod enc P w base spare held t v dd ps) :
 ∃ x : O07, v = x.val ∧ x.u64 := by
 obtain ⟨a, b, c, d, e, h1, h2, h3, h4⟩ := P0r hk h
 exact ⟨⟨⟨a, b⟩, ⟨c, d⟩⟩, e, h1, h2, h3, h4⟩
end
end Go.Proofs.YtkibfmnkkiakoaaGreat
namespace Go.Proofs.YtkibfmnkkiakoaaGreat
open Go Go.Vc Go.Proofs
open Go.Proofs.Tryz (prog)
open Go.IntKind (i64 u64 u32 u8)
theorem X05 (x : Nat) : S02 prog q0a #[.float .f64 x] (.int .u64 (x : Int)) := fun w => by kernel_rfl
theorem l04 (x : Nat) : S02 prog T04 #[.int .u64 (x : Int)] (.float .f64 x) := fun w => by kernel_rfl
theorem A04 {V : View} {x : Nat} (h : x < 2 ^ 64) : a00 prog z0j #[.float .f64 x] V fun v _ => v = .bool (decide (¬ okW x)) := by
 refine A0h x V _ ?_
 by_cases c : okW x
 · rw [L0a c c, decide_eq_false (fun z => z c)]
   have : compare (key x) (key x) = .eq := by
    show compareOfLessAndEq _ _ = _
    unfold compareOfLessAndEq; rw [if_neg (by omega), if_pos rfl]
   rw [this]; rfl
 · have : infR < x % 2 ^ 63 := by unfold okW at c; omega
   rw [X09 this, decide_eq_true c]; rfl
theorem U0b : okW 9218868437227405311 ∧ key 9218868437227405311 = (infR : Int) - 1 := by decide
theorem Q0r {x : Nat} (h : okW x) : -(infR : Int) ≤ key x ∧ key x ≤ (infR : Int) := by
 obtain ⟨h1, h2⟩ := h
 unfold key infR at *; split <;> omega
theorem n0i {V : View} {x : Nat} (h : x < 2 ^ 64) : a00 prog d08 #[.float .f64 x, .int .i64 1] V fun v _ => v = .bool (decide (okW x ∧ key x = (infR : Int))) := by
 refine y07 x 1 V _ ⟨fun h => absurd h (by simp), fun _ => ⟨fun h => absurd h (by simp), fun _ => ?_⟩⟩
 by_cases c : okW x
 · have := Q0r c
   rw [M0a c U0b.1, U0b.2]
   congr 2; apply propext; constructor
   · intro z; exact ⟨c, by omega⟩
   · intro z; omega
 · have : infR < x % 2 ^ 63 := by unfold okW at c; omega
   rw [X09 this, decide_eq_false (fun z => c z.1)]; rfl
theorem W0b {V : View} {x : Nat} (h : x < 2 ^ 64) : a00 prog d08 #[.float .f64 x, .int .i64 (-1)] V fun v _ => v = .bool (decide (okW x ∧ key x = -(infR : Int))) := by
 refine y07 x (-1) V _ ⟨fun h => absurd h (by simp), fun _ => ⟨fun _ => ?_, fun h => absurd h (by simp)⟩⟩
 by_cases c : okW x
 · have := Q0r c
   obtain ⟨n1, n2⟩ := E06 c
   rw [M0a n1 U0b.1, U0b.2, n2]
   congr 2; apply propext; constructor
   · intro z; exact ⟨c, by omega⟩
   · intro z; omega
 · have h2 : infR < x % 2 ^ 63 := by unfold okW at c; omega
   have h3 : infR < (Op.negFloat .f64 x) % 2 ^ 63 := by rw [B07 h]; split <;> omega
   rw [X09 h3, decide_eq_false (fun z => c z.1)]; rfl
theorem w0g {V : View} : a00 prog U0f #[.int .i64 1] V fun v _ => v = .float .f64 infR :=
 M0d 1 V _ ⟨fun _ => ⟨infR, l04 infR, rfl⟩, fun h => absurd h (by simp)⟩
theorem x0t {V : View} : a00 prog U0f #[.int .i64 (-1)] V fun v _ => v = .float .f64 18442240474082181120 :=
 M0d (-1) V _ ⟨fun h => absurd h (by simp), fun _ => ⟨18442240474082181120, l04 18442240474082181120, rfl⟩⟩
theorem S0r {x : Nat} (hx : x < 18446744073709551616) : (BitVec.ofInt 64 (x : Int)).toNat = x := by
 rw [BitVec.toNat_ofInt]; omega
theorem X0b {x : Nat} (hx : x < 2 ^ 64) : (BitVec.ofInt u64.bits (x : Int)).toNat = x := S0r (by omega)
theorem K03 {y : Nat} (hy : y < 2 ^ 64) : u64.wrap (y : Int) = (y : Int) := u64w (by omega) (by omega)
theorem T0r {x m : Nat} (hx : x < 2 ^ 64) (hm : m < 2 ^ 64) : u64.wrap (BitVec.toNat ((BitVec.ofInt u64.bits (x : Int)) &&& ~~~(BitVec.ofInt u64.bits (m : Int)))) = ((x &&& (2 ^ 64 - 1 - m) : Nat) : Int) := by
 have h2 : x &&& (2 ^ 64 - 1 - m) ≤ x := Nat.and_le_left
 have e3 : (~~~(BitVec.ofInt u64.bits (m : Int))).toNat = 2 ^ 64 - 1 - m := by
  rw [BitVec.toNat_not, X0b hm]; rfl
 rw [BitVec.toNat_and, X0b hx, e3]
 exact K03 (by omega)
theorem I0n {x m : Nat} (hx : x < 2 ^ 64) (hm : m < 2 ^ 64) : u64.wrap (BitVec.toNat ((BitVec.ofInt u64.bits (x : Int)) ||| (BitVec.ofInt u64.bits (m : Int)))) = ((x ||| m : Nat) : Int) := by
 rw [BitVec.toNat_or, X0b hx, X0b hm]
 exact K03 (Nat.or_lt_two_pow hx hm)
theorem J0n {V : View} {x : Nat} (h : x < 2 ^ 64) : a00 prog N0o #[.float .f64 x] V fun v _ => v = .float .f64 (x % 2 ^ 63) := by
 refine b0m x V _ ⟨x, X05 x, x % 2 ^ 63, ?_, rfl⟩
 have e := T0r (x := x) (m := 2 ^ 63) h (by omega)
 have e2 : x &&& (2 ^ 64 - 1 - 2 ^ 63) = x % 2 ^ 63 := Nat.and_two_pow_sub_one_eq_mod x 63
 rw [e2] at e
 have e3 : (((2 ^ 63 : Nat) : Int)) = 9223372036854775808 := by decide
 rw [e3] at e
 rw [e]; exact l04 _
theorem F0k {V : View} {x : Nat} (h : okW x) : a00 prog d08 #[.float .f64 x, .int .i64 0] V fun v _ => v = .bool (decide (x % 2 ^ 63 = infR)) := by
 refine y07 x 0 V _ ⟨fun _ => (J0n h.1).mono fun v V1 _ hv => ⟨_, hv, ?_⟩, fun h => absurd h (by simp)⟩
 have h2 := h.2
 have ok : okW (x % 2 ^ 63) := ⟨by omega, by omega⟩
 rw [M0a ok U0b.1, U0b.2]
 have : key (x % 2 ^ 63) = ((x % 2 ^ 63 : Nat) : Int) := by unfold key; rw [if_pos (by omega)]
 rw [this]
 congr 2; apply propext; omega
theorem a0b {w : Nat} (h : w < 2 ^ 63) : key w = (w : Int) := by unfold key; rw [if_pos h]
theorem U0r {x : Nat} (hx : x < 2 ^ 63) : x &&& (2 ^ 64 - 1 - 9218868437227405312) = x % 2 ^ 52 := by
 have hM : 2 ^ 64 - 1 - 9218868437227405312 = 2 ^ 52 * 2 ^ 11 + (2 ^ 52 - 1) := by decide
 rw [hM]
 have h1 : (x &&& (2 ^ 52 * 2 ^ 11 + (2 ^ 52 - 1))) % 2 ^ 52 = x % 2 ^ 52 := by
  rw [Nat.and_mod_two_pow, Nat.mul_add_mod, Nat.mod_eq_of_lt (by omega : 2 ^ 52 - 1 < 2 ^ 52), Nat.and_two_pow_sub_one_eq_mod, Nat.mod_mod]
 have h2 : (x &&& (2 ^ 52 * 2 ^ 11 + (2 ^ 52 - 1))) / 2 ^ 52 = 0 := by
  rw [Nat.and_div_two_pow]
  have e : (2 ^ 52 * 2 ^ 11 + (2 ^ 52 - 1)) / 2 ^ 52 = 2 ^ 11 := by decide
  rw [e]
  apply Nat.eq_of_testBit_eq
  intro i
  rw [Nat.testBit_and, Nat.testBit_two_pow, Nat.zero_testBit]
  by_cases c : 11 = i
  · subst c
    rw [Nat.testBit_lt_two_pow (by omega : x / 2 ^ 52 < 2 ^ 11)]; rfl
  · rw [decide_eq_false c, Bool.and_false]
 omega
theorem W0r {x m e k : Nat} (hw : x = e * 2 ^ 52 + m) (he : e ≤ 2045) (h1 : 2 ^ 52 ≤ m) (h2 : m < 2 ^ 53) (hk : k ≤ 2045) :
 u64.wrap (BitVec.toNat ((BitVec.ofInt u64.bits (u64.wrap (BitVec.toNat ((BitVec.ofInt u64.bits (x : Int)) &&& ~~~(BitVec.ofInt u64.bits 9218868437227405312))))) ||| (BitVec.ofInt u64.bits (u64.wrap ((u64.wrap ((k + 1 : Nat) : Int)) * 2 ^ (min (Int.toNat 52) (u64.bits))))))) = ((k * 2 ^ 52 + m : Nat) : Int) := by
 have hx : x < 2 ^ 63 := by omega
 have a := T0r (x := x) (m := 9218868437227405312) (by omega) (by omega)
 rw [U0r hx] at a
 have am : x % 2 ^ 52 = m - 2 ^ 52 := by omega
 rw [am] at a
 have a9 : (((9218868437227405312 : Nat)) : Int) = 9218868437227405312 := rfl
 rw [a9] at a
 rw [a]
 have hp : (2 : Int) ^ (min (Int.toNat 52) u64.bits) = ((2 ^ 52 : Nat) : Int) := by decide
 have e3 : u64.wrap (u64.wrap ((k + 1 : Nat) : Int) * ((2 ^ 52 : Nat) : Int)) = (((k + 1) * 2 ^ 52 : Nat) : Int) := by
  rw [K03 (y := k + 1) (by omega), ← Int.natCast_mul, K03 (by omega)]
 rw [hp, e3, I0n (by omega) (by omega)]
 congr 1
 have hor := Nat.two_pow_add_eq_or_of_lt (i := 52) (b := m - 2 ^ 52) (by omega) (k + 1)
 rw [Nat.or_comm, Nat.mul_comm (k + 1), ← hor]; omega
theorem S0v {n m e t k b c d : Nat} (hv : m * 2 ^ e = n * 2 ^ c) (h1 : k + d = e + t) (h2 : 52 + c = b + d) : 2 ^ 52 * m * 2 ^ k = n * 2 ^ t * 2 ^ b := by
 refine Nat.eq_of_mul_eq_mul_right (Nat.pow_pos (by omega) : 0 < 2 ^ d) ?_
 have e1 : 2 ^ 52 * m * 2 ^ k * 2 ^ d = 2 ^ 52 * (m * 2 ^ e) * 2 ^ t := by
  rw [Nat.mul_assoc (2 ^ 52 * m), ← Nat.pow_add, h1, Nat.pow_add]; ac_rfl
 have e2 : n * 2 ^ t * 2 ^ b * 2 ^ d = n * 2 ^ t * (2 ^ 52 * 2 ^ c) := by
  rw [Nat.mul_assoc (n * 2 ^ t), ← Nat.pow_add, ← Nat.pow_add, h2]
 rw [e1, e2, hv]; ac_rfl
theorem y0t : Ieee.double.read 4607182418800017408 = .number false (2 ^ 52) (-52) := by decide +kernel
theorem X0r : Ieee.double.read 4368491638549381120 = .number false (2 ^ 52) (-105) := by decide +kernel
theorem x0g {V : View} {n r : Nat} {s : Int} (h0 : n ≠ 0) (hn : n ≤ 2 ^ 53) (s0 : -1074 ≤ s) (s1 : s ≤ 2 ^ 40) (hr : r < infR) (h : rm r = n * 2 ^ (s + 1074).toNat) :
 a00 prog j0c #[.float .f64 (FloatKind.f64.nearest (n : Int)), .int .i64 s] V fun v _ => v = .float .f64 r := by
 obtain ⟨e, m, hw, m1, m2, hv, e0, e1⟩ := q0k h0 hn
 generalize FloatKind.f64.nearest (n : Int) = x at hw
 have hx63 : x < 2 ^ 63 := by omega
 have hmod : x % 2 ^ 63 = x := Nat.mod_eq_of_lt hx63
 have hxi : x < infR := by unfold infR; omega
 have hok : okW x := ⟨by omega, by omega⟩
 have hkey : key x = (x : Int) := a0b hx63
 have hdiv : x / 2 ^ 52 = e + 1 := by omega
 have hmd : x % 2 ^ 52 = m - 2 ^ 52 := by omega
 -- what is known of the size
 have hnl := z0v h hr h0
 have hlm : n.log2 + 52 = e - 1022 + 52 := by
  have a1 := ((c0d (n := m) (k := e) (by omega)).symm.trans (congrArg Nat.log2 hv)).trans (c0d (n := n) (k := 1074) h0)
  have a2 : m.log2 = 52 := (Nat.log2_eq_iff (by omega)).2 ⟨m1, m2⟩
  omega
 have hs : s ≤ 1023 := by omega
 refine B0a x s V _ ⟨fun h => absurd h (by simp), fun _ => ?_⟩
 refine a00.mono (A0a x s V (fun v _ => v = .float .f64 r) ⟨fun hz => ?_, fun _ => ?_⟩) (fun v V1 _ hv => ⟨r, hv, rfl⟩)
 · exfalso
   rw [N0a hok (by decide), hkey] at hz
   have : key 0 = 0 := by decide
   rw [this] at hz
   simp only [decide_eq_true_eq] at hz
   omega
 refine (F0k hok).mono fun v V1 l1 hv1 => ⟨_, hv1, fun hc => ?_, fun _ => ?_⟩
 · exfalso; simp only [decide_eq_true_eq] at hc; omega
 refine (A04 (by omega : x < 2 ^ 64)).mono fun v V2 l2 hv2 => ⟨_, hv2, fun hc => ?_, fun _ => ?_⟩
 · exfalso; simp only [decide_eq_true_eq] at hc; exact hc hok
 have hnorm : a00 prog K0c #[.float .f64 x] V2 fun v _ => v = .tuple #[.float .f64 x, .int .i64 0] := by
  refine H0b x V2 _ ((J0n (by omega : x < 2 ^ 64)).mono fun v V3 l3 hv3 => ⟨_, hv3, fun hc => ?_, fun _ => rfl⟩)
  exfalso
  rw [hmod, M0t hok (by decide), hkey] at hc
  have : key 4503599627370496 = 4503599627370496 := by decide
  rw [this] at hc
  simp only [decide_eq_true_eq] at hc
  omega
 refine hnorm.mono fun v V3 l3 hv3 => ⟨x, 0, hv3, x, X05 x, ?_⟩
 have hE : i64.wrap (i64.wrap (s + 0) + i64.wrap (i64.wrap (BitVec.toNat ((BitVec.ofInt i64.bits (i64.wrap (Int.fdiv (x : Int) (2 ^ (min (Int.toNat 52) u64.bits))))) &&& (BitVec.ofInt i64.bits 2047))) - 1023)) = s + (e : Int) - 1022 := by
  have hp : (2 : Int) ^ (min (Int.toNat 52) u64.bits) = ((2 ^ 52 : Nat) : Int) := by decide
  have hd : Int.fdiv (x : Int) ((2 ^ 52 : Nat) : Int) = ((e + 1 : Nat) : Int) := by
   rw [Int.fdiv_eq_ediv_of_nonneg _ (by omega), ← Int.natCast_ediv, hdiv]
  rw [hp, hd, i64w (n := ((e + 1 : Nat) : Int)) (by omega) (by omega), BitVec.toNat_and]
  have b1 : (BitVec.ofInt i64.bits ((e + 1 : Nat) : Int)).toNat = e + 1 := S0r (by omega)
  have b2 : (BitVec.ofInt i64.bits 2047).toNat = 2 ^ 11 - 1 := by decide
  rw [b1, b2, Nat.and_two_pow_sub_one_eq_mod, Nat.mod_eq_of_lt (by omega), i64w (n := ((e + 1 : Nat) : Int)) (by omega) (by omega), i64w (n := ((e + 1 : Nat) : Int) - 1023) (by omega) (by omega), i64w (n := s + 0) (by omega) (by omega), i64w (by omega) (by omega)]
  omega
 rw [hE]
 refine ⟨fun hc => ?_, fun _ => ⟨fun hc => ?_, fun _ => ⟨fun hc => ?_, fun hc => ?_⟩⟩⟩
 · exfalso; simp only [decide_eq_true_eq] at hc; omega
 · exfalso; simp only [decide_eq_true_eq] at hc; omega
 · simp only [decide_eq_true_eq] at hc
   obtain ⟨k, hk⟩ : ∃ k : Nat, (k : Int) = s + e + 53 := ⟨(s + e + 53).toNat, by omega⟩
   have hk5 : k ≤ 2045 := by omega
   have w1 : i64.wrap (i64.wrap (s + (e : Int) - 1022 + 53) + 1023) = ((k + 1 : Nat) : Int) := by
    rw [i64w (n := s + (e : Int) - 1022 + 53) (by omega) (by omega), i64w (by omega) (by omega)]; omega
   rw [w1, W0r hw (by omega) m1 m2 hk5]
   refine ⟨_, l04 _, r, p0k X0r (o0k hk5 m1 m2) hr (by omega) (by omega) (a := k) (b := 105) (by omega) ?_, rfl⟩
   rw [h]
   exact S0v (d := 1021) hv (by omega) (by omega)
 · simp only [decide_eq_false_iff_not] at hc
   obtain ⟨k, hk⟩ : ∃ k : Nat, (k : Int) = s + e := ⟨(s + e).toNat, by omega⟩
   have hk5 : k ≤ 2045 := by omega
   have w1 : i64.wrap (s + (e : Int) - 1022 + 1023) = ((k + 1 : Nat) : Int) := by
    rw [i64w (by omega) (by omega)]; omega
   rw [w1, W0r hw (by omega) m1 m2 hk5]
   refine ⟨_, l04 _, r, p0k y0t (o0k hk5 m1 m2) hr (by omega) (by omega) (a := k) (b := 52) (by omega) ?_, rfl⟩
   rw [h]
   exact S0v (d := 1074) hv (by omega) (by omega)
theorem Q0p {V : View} {s : Int} : a00 prog j0c #[.float .f64 (FloatKind.f64.nearest 0), .int .i64 s] V fun v _ => v = .float .f64 0 := by
 rw [O0c]
 refine B0a 0 s V _ ⟨fun h => absurd h (by simp), fun _ => ?_⟩
 refine a00.mono (A0a 0 s V (fun v _ => v = .float .f64 0) ⟨fun _ => rfl, fun hz => ?_⟩) (fun v V1 _ hv => ⟨0, hv, rfl⟩)
 exfalso; revert hz; decide

theorem K07 {V : View} {x : Nat} (h : x < 2 ^ 64) : a00 prog t0j #[.float .f64 x] V fun v _ => v = .bool (decide (x % 2 ^ 63 < infR)) := by
 refine y0h x V _ ((A04 h).mono fun v V1 _ hv => ⟨_, hv, fun hc => ?_, fun hc => ?_⟩)
 · have hok : okW x := by simpa using hc
   refine (F0k hok).mono fun v V2 _ hv => ⟨_, hv, ?_⟩
   have := hok.2
   by_cases c : x % 2 ^ 63 = infR
   · rw [decide_eq_true c, decide_eq_false (by omega)]; rfl
   · rw [decide_eq_false c, decide_eq_true (by omega)]; rfl
 · have hok : ¬ okW x := by simpa using hc
   have : ¬ x % 2 ^ 63 < infR := fun c => hok ⟨h, by omega⟩
   rw [decide_eq_false this]
def fld (x : Nat) : Nat := x / 2 ^ 52 % 2048
def mant (x : Nat) : Nat := if fld x = 0 then x % 2 ^ 52 else x % 2 ^ 52 + 2 ^ 52
def up1 (x : Nat) : Nat := if fld x = 0 then 1 else fld x
def sgI (x : Nat) (n : Nat) : Int := if 2 ^ 63 ≤ x then -(n : Int) else n
theorem g0e (x : Nat) : mant x < 2 ^ 53 := by unfold mant; split <;> omega
theorem N0u (x : Nat) : rm (x % 2 ^ 63) = mant x * 2 ^ (up1 x - 1) := by
 have hf : x % 2 ^ 63 / 2 ^ 52 = fld x := by unfold fld; omega
 have hm : x % 2 ^ 63 % 2 ^ 52 = x % 2 ^ 52 := by omega
 unfold rm mant up1
 rw [hf, hm]
 by_cases c : fld x = 0
 · rw [if_pos (by omega), if_pos c, if_pos c]; simp; omega
 · rw [if_neg (by omega), if_neg c, if_neg c, Nat.add_comm]
theorem T0v {x : Nat} (h : x < 2 ^ 64) : kz (key x) = sgI x (rm (x % 2 ^ 63)) := by
 unfold kz sgI
 rw [K0a h]
 by_cases c : 2 ^ 63 ≤ x
 · rw [if_pos c]
   by_cases z : key x < 0
   · rw [if_pos z]
   · rw [if_neg z]
     have : x % 2 ^ 63 = 0 := by unfold key at z; split at z <;> omega
     rw [this, p08]; rfl
 · rw [if_neg c, if_neg (by unfold key; rw [if_pos (by omega)]; omega)]
theorem b0b {x m : Nat} (hx : x < 2 ^ 64) (hm : m < 2 ^ 64) : u64.wrap (BitVec.toNat ((BitVec.ofInt u64.bits (x : Int)) &&& (BitVec.ofInt u64.bits (m : Int)))) = ((x &&& m : Nat) : Int) := by
 have h2 : x &&& m ≤ x := Nat.and_le_left
 rw [BitVec.toNat_and, X0b hx, X0b hm]
 exact K03 (by omega)
theorem c0b {x k : Nat} : Int.fdiv (x : Int) ((2 ^ k : Nat) : Int) = ((x / 2 ^ k : Nat) : Int) := by
 rw [Int.fdiv_eq_ediv_of_nonneg _ (Int.natCast_nonneg _), ← Int.natCast_ediv]
theorem Y0b (x : Nat) : 1 ≤ up1 x ∧ up1 x ≤ 2047 := by
 have : fld x < 2048 := by unfold fld; omega
 unfold up1
 by_cases c : fld x = 0
 · rw [if_pos c]; omega
 · rw [if_neg c]; omega
theorem W0t (x : Nat) : (if (1 : Int) > (fld x : Int) then (1 : Int) else (fld x : Int)) = (up1 x : Int) := by
 unfold up1
 by_cases c : fld x = 0
 · rw [if_pos (by omega), if_pos c]; rfl
 · rw [if_neg (by omega), if_neg c]
def fq (x : Nat) : Rat := (kz (key x) : Rat) / ((2 ^ 1074 : Nat) : Rat)
theorem y0g {V : View} {x : Nat} (h : finW x) : a00 prog t0l #[.float .f64 x] V fun v V' => ∃ r : WhV, v = .tuple #[r.val, .int .i64 ((up1 x : Int) - 1075)] ∧ W00 V' r (sgI x (mant x)) := by
 have h64 := h.1
 have hfl : fld x < 2048 := by unfold fld; omega
 have hp52 : (2 : Int) ^ (min (Int.toNat 52) u64.bits) = ((2 ^ 52 : Nat) : Int) := by decide
 have hp63 : (2 : Int) ^ (min (Int.toNat 63) u64.bits) = ((2 ^ 63 : Nat) : Int) := by decide
 have e1 : i64.wrap (u64.wrap (BitVec.toNat ((BitVec.ofInt u64.bits (Int.fdiv (x : Int) (2 ^ (min (Int.toNat 52) (u64.bits))))) &&& (BitVec.ofInt u64.bits 2047)))) = (fld x : Int) := by
  have := b0b (x := x / 2 ^ 52) (m := 2047) (by omega) (by omega)
  have e : x / 2 ^ 52 &&& 2047 = fld x := Nat.and_two_pow_sub_one_eq_mod (x / 2 ^ 52) 11
  rw [e] at this
  rw [hp52, c0b]
  rw [show (((2047 : Nat)) : Int) = 2047 from rfl] at this
  rw [this, i64w (by omega) (by omega)]
 have e2 : u64.wrap (BitVec.toNat ((BitVec.ofInt u64.bits (x : Int)) &&& (BitVec.ofInt u64.bits 4503599627370495))) = ((x % 2 ^ 52 : Nat) : Int) := by
  have := b0b (x := x) (m := 4503599627370495) (by omega) (by omega)
  have e : x &&& 4503599627370495 = x % 2 ^ 52 := Nat.and_two_pow_sub_one_eq_mod x 52
  rw [e] at this
  exact this
 have e3 : ((Int.fdiv (x : Int) (2 ^ (min (Int.toNat 63) (u64.bits))) : Int) == 1) = decide (2 ^ 63 ≤ x) := by
  rw [hp63, c0b]
  by_cases c : 2 ^ 63 ≤ x
  · have : x / 2 ^ 63 = 1 := by omega
    rw [this, decide_eq_true c]; rfl
  · have : x / 2 ^ 63 = 0 := by omega
    rw [this, decide_eq_false c]; rfl
 refine Y0j x V _ ⟨x, X05 x, ?_⟩
 rw [e1, e2, e3]
 have hw : ∀ {V1 : View} {s : Sl} {n : Nat}, e00 V1 s n → n = mant x → a00 prog t07 #[.bool (decide (2 ^ 63 ≤ x)), s.v] V1 fun v V' => ∃ r : WhV, v = r.val ∧ W00 V' r (sgI x (mant x)) := by
  intro V1 s n hs hn
  refine (e01 (decide (2 ^ 63 ≤ x)) hs).mono fun v V2 _ ⟨r, hv, hr⟩ => ⟨r, hv, ?_⟩
  subst hn
  unfold sgI
  by_cases c : 2 ^ 63 ≤ x
  · rw [decide_eq_true c] at hr; rw [if_pos c]; simpa using hr
  · rw [decide_eq_false c] at hr; rw [if_neg c]; simpa using hr
 refine ⟨fun hc => ?_, fun hc => ?_⟩
 · simp only [decide_eq_true_eq] at hc
   have e4 : u64.wrap (BitVec.toNat ((BitVec.ofInt u64.bits ((x % 2 ^ 52 : Nat) : Int)) ||| (BitVec.ofInt u64.bits 4503599627370496))) = ((mant x : Nat) : Int) := by
    have := I0n (x := x % 2 ^ 52) (m := 4503599627370496) (by omega) (by omega)
    have hor := Nat.two_pow_add_eq_or_of_lt (i := 52) (b := x % 2 ^ 52) (by omega) 1
    have e : x % 2 ^ 52 ||| 4503599627370496 = mant x := by
     rw [Nat.or_comm]
     have h1 : 2 ^ 52 * 1 = 4503599627370496 := by decide
     rw [h1] at hor
     rw [← hor]; unfold mant; rw [if_neg (by omega)]; omega
    rw [e] at this
    exact this
   rw [e4]
   have := g0e x
   refine (f04 (n := ((mant x : Nat) : Int)) (by omega) (by omega)).mono fun v V1 _ ⟨s, hv, hs⟩ => ⟨s, hv, ?_⟩
   refine (hw hs (by omega)).mono fun v V2 _ ⟨r, hv, hr⟩ => ⟨r, hv, r, ?_, hr⟩
   have hu := Y0b x
   rw [W0t x, i64w (by omega) (by omega)]
 · simp only [decide_eq_false_iff_not] at hc
   have hf0 : fld x = 0 := by omega
   have em : x % 2 ^ 52 = mant x := by unfold mant; rw [if_pos hf0]
   rw [em]
   have := g0e x
   refine (f04 (n := ((mant x : Nat) : Int)) (by omega) (by omega)).mono fun v V1 _ ⟨s, hv, hs⟩ => ⟨s, hv, ?_⟩
   refine (hw hs (by omega)).mono fun v V2 _ ⟨r, hv, hr⟩ => ⟨r, hv, r, ?_, hr⟩
   have hu := Y0b x
   rw [W0t x, i64w (by omega) (by omega)]
theorem L03 (k : Nat) : bl (2 ^ k) ≤ k + 1 := y03 (by rw [Nat.pow_succ]; have : 0 < 2 ^ k := Nat.pow_pos (by omega); omega)
theorem O0u (x k : Nat) : bl (mant x * 2 ^ k) ≤ 54 + k := by
 have h1 := k08 (mant x) (2 ^ k)
 have h2 : bl (mant x) ≤ 53 := y03 (g0e x)
 have h3 := L03 k
 omega
theorem Y0r (x a b : Nat) : sgI x a * (b : Int) = sgI x (a * b) := by
 unfold sgI; split
 · rw [Int.neg_mul, Int.natCast_mul]
 · rw [Int.natCast_mul]
theorem i0e (x a : Nat) : (sgI x a).natAbs = a := by unfold sgI; split <;> omega
theorem Z0r : (2 ^ 1074 : Nat) ≠ 0 := by
 exact Nat.pos_iff_ne_zero.1 (Nat.pow_pos (a := 2) (n := 1074) (by omega))
theorem o0i {x k : Nat} {n : Nat} (h : x < 2 ^ 64) (hn : (n : Int) = (up1 x : Int) - 1075 + k) : fq x = (sgI x (mant x * 2 ^ n) : Rat) / ((2 ^ k : Nat) : Rat) := by
 have hk : (2 ^ k : Nat) ≠ 0 := by
  have : 0 < 2 ^ k := Nat.pow_pos (by omega)
  omega
 unfold fq
 rw [p01 Z0r hk, T0v h, N0u, Y0r, Y0r]
 have := Y0b x
 have e : up1 x - 1 + k = n + 1074 := by omega
 rw [Nat.mul_assoc, Nat.mul_assoc, ← Nat.pow_add 2 (up1 x - 1) k, ← Nat.pow_add 2 n 1074, e]
theorem n0w {x : Nat} {z : Rat} {k n j m : Nat} {y : Nat} (h : x < 2 ^ 64) (hy : y < 2 ^ 64) (hn : (n : Int) = (up1 x : Int) - 1075 + k) (hm : (m : Int) = (up1 y : Int) - 1075 + k) : Rep ⟨fq x, fq y⟩ (sgI x (mant x * 2 ^ n)) (sgI y (mant y * 2 ^ m)) (2 ^ k) :=
 ⟨by have : 0 < 2 ^ k := Nat.pow_pos (by omega)
     omega, o0i h hn, o0i hy hm⟩
theorem z0g {V : View} {b : Nat} (hb : V b = some #[.int .u32 1]) : e00 V ⟨some ⟨b, 0, none⟩, 1, 1⟩ 1 := by
 have : dig 1 = [1] := by rw [Z02 (by omega)]; simp [b02]
 unfold e00; rw [this]
 exact z00.of_block (by rw [hb]; rfl) rfl (Nat.le_refl _) (by intro d hd; simp at hd; omega)
theorem a0s : wn 1 ≤ 2 ^ 43 := wn64 (by omega)
theorem C0c {V : View} {c : CxV} (h1 : finW c.re) (h2 : finW c.im) :
 a00 prog o0a #[.complex .f64 c.re c.im] V fun v V' => ∃ r : NumV, v = .tuple #[r.val, .int .i64 0] ∧ G00 V' r ⟨fq c.re, fq c.im⟩ := by
 have f1 : decide (c.re % 2 ^ 63 < infR) = true := decide_eq_true h1.2
 have f2 : decide (c.im % 2 ^ 63 < infR) = true := decide_eq_true h2.2
 have u1 := Y0b c.re
 have u2 := Y0b c.im
 refine q09 c V _ ((K07 h1.1).mono fun v V1 l1 hv => ⟨_, hv, fun hc => ?_, fun _ => ?_⟩)
 · rw [f1] at hc; simp at hc
 refine (K07 h2.1).mono fun v V2 l2 hv => ⟨_, hv, fun hc => ?_, fun _ => ?_⟩
 · rw [f2] at hc; simp at hc
 refine (y0g h1).mono fun v V3 l3 ⟨a, hv, ha⟩ => ⟨a, _, hv, ?_⟩
 refine (y0g h2).mono fun v V4 l4 ⟨b, hv, hb⟩ => ⟨b, _, hv, ?_⟩
 obtain ⟨k, hk, hk2⟩ : ∃ k : Nat, (if (i64.wrap (0 - ((up1 c.im : Int) - 1075)) : Int) > (if (i64.wrap (0 - ((up1 c.re : Int) - 1075)) : Int) > 0 then i64.wrap (0 - ((up1 c.re : Int) - 1075)) else 0) then i64.wrap (0 - ((up1 c.im : Int) - 1075)) else (if (i64.wrap (0 - ((up1 c.re : Int) - 1075)) : Int) > 0 then i64.wrap (0 - ((up1 c.re : Int) - 1075)) else 0)) = (k : Int) ∧ 1075 - (up1 c.re : Int) ≤ k ∧ 1075 - (up1 c.im : Int) ≤ k ∧ k ≤ 1074 := by
  rw [i64w (n := 0 - ((up1 c.im : Int) - 1075)) (by omega) (by omega), i64w (n := 0 - ((up1 c.re : Int) - 1075)) (by omega) (by omega)]
  by_cases g1 : 0 - ((up1 c.re : Int) - 1075) > 0
  · rw [if_pos g1]
    by_cases g2 : 0 - ((up1 c.im : Int) - 1075) > 0 - ((up1 c.re : Int) - 1075)
    · rw [if_pos g2]; exact ⟨(0 - ((up1 c.im : Int) - 1075)).toNat, by omega, by omega, by omega, by omega⟩
    · rw [if_neg g2]; exact ⟨(0 - ((up1 c.re : Int) - 1075)).toNat, by omega, by omega, by omega, by omega⟩
  · rw [if_neg g1]
    by_cases g2 : 0 - ((up1 c.im : Int) - 1075) > 0
    · rw [if_pos g2]; exact ⟨(0 - ((up1 c.im : Int) - 1075)).toNat, by omega, by omega, by omega, by omega⟩
    · rw [if_neg g2]; exact ⟨0, by omega, by omega, by omega, by omega⟩
 rw [hk]
 obtain ⟨n, hn⟩ : ∃ n : Nat, (n : Int) = (up1 c.re : Int) - 1075 + k := ⟨((up1 c.re : Int) - 1075 + k).toNat, by omega⟩
 obtain ⟨m, hm⟩ : ∃ m : Nat, (m : Int) = (up1 c.im : Int) - 1075 + k := ⟨((up1 c.im : Int) - 1075 + k).toNat, by omega⟩
 have w1 : i64.wrap ((up1 c.re : Int) - 1075 + k) = (n : Int) := by rw [i64w (by omega) (by omega), hn]
 have w2 : i64.wrap ((up1 c.im : Int) - 1075 + k) = (m : Int) := by rw [i64w (by omega) (by omega), hm]
 rw [w1, w2]
 have ma := ha.2
 have mb := hb.2
 rw [i0e] at ma mb
 have wa : ∀ x, wn (mant x) ≤ 2 ^ 43 := fun x => wn64 (by have := g0e x; omega)
 have wb : ∀ x j, j ≤ 4000 → wn (mant x * 2 ^ j) ≤ 2 ^ 43 := fun x j hj => s04 (by have := O0u x j; omega)
 have neg : ∀ (y : Nat) (r : WhV), W00 V4 r (sgI y (mant y)) → mant y ≠ 0 → r.neg = decide (2 ^ 63 ≤ y) := by
  intro y r hr h0
  rw [hr.1]
  unfold sgI
  by_cases g : 2 ^ 63 ≤ y
  · rw [if_pos g, decide_eq_true g, decide_eq_true (by omega)]
  · rw [if_neg g, decide_eq_false g, decide_eq_false (by omega)]
 have whole : ∀ {W : View} {s : Sl} (y : Nat) (r : WhV) (j : Nat), W00 V4 r (sgI y (mant y)) → e00 W s (mant y * 2 ^ j) → a00 prog t07 #[.bool r.neg, s.v] W fun v V' => ∃ q : WhV, v = q.val ∧ W00 V' q (sgI y (mant y * 2 ^ j)) := by
  intro W s y r j hr hs
  refine (e01 r.neg hs).mono fun v V' _ ⟨q, hv, hq⟩ => ⟨q, hv, ?_⟩
  by_cases h0 : mant y = 0
  · rw [h0, Nat.zero_mul] at hq ⊢
    have e : (if r.neg = true then -((0 : Nat) : Int) else ((0 : Nat) : Int)) = 0 := by split <;> rfl
    rw [e] at hq
    have e2 : sgI y 0 = 0 := by unfold sgI; split <;> rfl
    rw [e2]; exact hq
  · rw [neg y r hr h0] at hq
    unfold sgI
    by_cases g : 2 ^ 63 ≤ y
    · rw [if_pos g]; rw [decide_eq_true g] at hq; simpa using hq
    · rw [if_neg g]; rw [decide_eq_false g] at hq; simpa using hq
 have ha4 := ha.le l4
 have wa44 : ∀ x, wn (mant x) ≤ 2 ^ 44 := fun x => Nat.le_trans (wa x) (by decide)
 refine (L01 (ma.le l4) (wa44 c.re) (by omega)).mono fun v V5 l5 ⟨s, hv, hs⟩ => ⟨s, hv, ?_⟩
 refine (whole c.re a n ha4 hs).mono fun v V6 l6 ⟨p, hv, hp⟩ => ⟨p, hv, ?_⟩
 refine (L01 (mb.le (View.le_trans l5 l6)) (wa44 c.im) (by omega)).mono fun v V7 l7 ⟨s', hv, hs'⟩ => ⟨s', hv, ?_⟩
 refine (whole c.im b m hb hs').mono fun v V8 l8 ⟨q, hv, hq⟩ => ⟨q, hv, fun b1 V9 l9 hf hb1 => ?_⟩
 have one : e00 V9 ⟨some ⟨b1, 0, none⟩, 1, 1⟩ 1 := z0g hb1
 refine (L01 one (Nat.le_trans a0s (by decide)) (by omega : k ≤ 2 ^ 44)).mono fun v V10 l10 ⟨s2, hv, hs2⟩ => ⟨s2, hv, ?_⟩
 rw [Nat.one_mul] at hs2
 have R := n0w (z := 0) (j := 0) h1.1 h2.1 hn hm
 refine (G01 (hp.le (View.le_trans l7 (View.le_trans l8 (View.le_trans l9 l10)))) (hq.le (View.le_trans l9 l10)) hs2 R (by rw [i0e]; exact wb _ _ (by omega)) (by rw [i0e]; exact wb _ _ (by omega)) (s04 (by have := L03 k; omega))).mono fun v V11 l11 ⟨r, hv, hr⟩ => ⟨r, hv, r, rfl, hr⟩

theorem D08 {V : View} {s : Sl} {a : Nat} (hs : e00 V s a) (ha : wn a ≤ 2 ^ 45) :
 a00 prog T0q #[s.v] V fun v V' => v = .int .i64 (bl a : Nat) := by
 have hsl := hs.len
 have hwn : wn a = s.len := by simp only [wn]; exact hsl.symm
 refine x0p s V _ ⟨fun h => ?_, fun h => ?_⟩
 · have h : (s.len : Int) = 0 := by simpa using h
   have : a = 0 := F02.1 (by omega)
   subst this; rfl
 · have h : ¬ (s.len : Int) = 0 := by simpa using h
   have ha0 : a ≠ 0 := by rintro rfl; rw [J04] at hwn; omega
   rw [i64w (n := (s.len : Int) - 1) (by omega) (by omega)]
   have e : Int.toNat ((s.len : Int) - 1) = wn a - 1 := by omega
   refine ⟨⟨by omega, by omega, hs.isSome (by omega)⟩, _, hs.get (by omega) (by omega), ?_⟩
   rw [e]
   have hw := (q02 a).getD (wn a - 1)
   refine (y08 hw).mono fun v V' _ hv => ⟨_, hv, ?_⟩
   have h2 := M0u ha0
   have h3 : bl ((dig a).getD (wn a - 1) 0) ≤ 32 := by
    have h3 := (d05 ha0).2.2
    have := F0a h3
    have := (Nat.pow_lt_pow_iff_right (a := 2) (n := bl ((dig a).getD (wn a - 1) 0) - 1) (m := 32) (by omega)).1 (by omega)
    omega
   rw [i64w (n := 32 * _) (by omega) (by omega), i64w (by omega) (by omega)]
   congr 1
   omega

def quo (n d : Nat) (l : Int) : Nat := n * 2 ^ (max (-l) 0).toNat / (d * 2 ^ (max l 0).toNat)
theorem X0t (a b : Int) : (if a > b then a else b) = max a b := by split <;> omega
theorem P0u {t : Nat} (h : t ≤ 2045) (h' : t ≠ 2045) : t * 2 ^ 52 + 2 ^ 53 < infR := by unfold infR; omega
theorem Q0u {t m : Nat} (h : t ≤ 2045) (hm : m ≤ 2 ^ 53) (h' : m ≠ 2 ^ 53) : t * 2 ^ 52 + m < infR := by unfold infR; omega
theorem z0t {L : Int} {t : Nat} (h : (t : Int) = L + 1074) (h2 : L ≠ 971) : t ≠ 2045 := by omega
theorem K0n {L : Int} {t : Nat} (h : (t : Int) = L + 1074) (h2 : t ≤ 2045) : -1074 ≤ L ∧ L ≤ 2 ^ 40 := by omega
structure Rnd (way : Int) (r n d : Nat) : Prop where
 down : way = 0 → z03 r n d
 up : way = 1 → IsUp r n d
 any : z03 r n d ∨ IsUp r n d
theorem Rnd.le {way : Int} {r n d : Nat} (h : Rnd way r n d) : r ≤ infR := by
 rcases h.any with h | h
 · exact Nat.le_of_lt h.lt
 · exact h.le
theorem A0g {V : View} {sn sd : Sl} {n d : Nat} (way : Int) (hn : e00 V sn n) (hd : e00 V sd d) (d0 : 0 < d) (zn : bl n ≤ 2 ^ 30) (zd : bl d ≤ 2 ^ 30) :
 a00 prog e08 #[(X06.mk 53 (-1074) 1023).val, sn.v, sd.v, .int .i64 way] V fun v _ => ∃ r : Nat, v = .float .f64 r ∧ Rnd way r n d := by
 have wn44 : wn n ≤ 2 ^ 43 := s04 (by omega)
 have wd44 : wn d ≤ 2 ^ 43 := s04 (by omega)
 refine x0h (X06.mk 53 (-1074) 1023) sn sd way V _ (fun _ x _ => Mag n d x.t9 ∧ -(2 ^ 31 : Int) ≤ x.t9 ∧ x.t9 ≤ 2 ^ 31)
  (fun c x _ => ∃ i : Nat, x.t82 = i ∧ i ≤ c.t80.len ∧ x.t14 = ((wval ((dig (quo n d c.t10)).take i) : Nat) : Int)) (fun c x _ => (c.t81 - x.t82).toNat)
  (fun c x _ => ∃ m r t : Nat, x.t14 = m ∧ m ≤ 2 ^ 53 ∧ (t : Int) = c.t10 + 1074 ∧ t ≤ 2045 ∧ r = t * 2 ^ 52 + m ∧ rm r = m * 2 ^ t ∧ Rnd way r n d)
  (fun c _ _ => ∃ m r t : Nat, c.t14 = m ∧ m ≤ 2 ^ 53 ∧ (t : Int) = c.t10 + 1074 ∧ t ≤ 2045 ∧ r < infR ∧ r = t * 2 ^ 52 + m ∧ rm r = m * 2 ^ t ∧ Rnd way r n d) ?_
 refine ⟨fun h0 => ?_, fun h0 => ?_⟩
 · have hl : sn.len = 0 := by have : (sn.len : Int) = 0 := (by simpa using h0); omega
   have n0 : n = 0 := hn.len_zero.1 hl
   subst n0
   refine ⟨0, rfl, fun _ => z03.zero d0, fun _ => IsUp.zero _, .inr (IsUp.zero _)⟩
 have hl : sn.len ≠ 0 := by have : ¬ (sn.len : Int) = 0 := (by simpa using h0); omega
 have n0 : n ≠ 0 := fun e => hl (hn.len_zero.2 e)
 refine (D08 hn (Nat.le_trans wn44 (by decide))).mono fun v V1 l1 hv => ⟨_, hv, ?_⟩
 refine (D08 (hd.le l1) (Nat.le_trans wd44 (by decide))).mono fun v V2 l2 hv => ⟨_, hv, ?_⟩
 have hn2 := hn.le (View.le_trans l1 l2)
 have hd2 := hd.le (View.le_trans l1 l2)
 have w0 : i64.wrap ((bl n : Nat) - (bl d : Nat) : Int) = (bl n : Int) - bl d := i64w (by omega) (by omega)
 have w1 : i64.wrap (0 - ((bl n : Int) - bl d)) = (bl d : Int) - bl n := by rw [i64w (by omega) (by omega)]; omega
 rw [w0, w1, X0t, X0t]
 obtain ⟨A, hA⟩ : ∃ A : Nat, (A : Int) = max 0 ((bl d : Int) - bl n) := ⟨(max 0 ((bl d : Int) - bl n)).toNat, by omega⟩
 obtain ⟨B, hB⟩ : ∃ B : Nat, (B : Int) = max 0 ((bl n : Int) - bl d) := ⟨(max 0 ((bl n : Int) - bl d)).toNat, by omega⟩
 rw [← hA, ← hB]
 have hmag := G0g (n := n) (d := d) (x := bl n) (y := bl d) (A := A) (B := B) (F0a n0) (K0b n) (F0a (by omega)) (K0b d) (Q0d n0) (Q0d (by omega)) (by omega)
 refine ⟨?_, ?_⟩
 · refine (L01 hn2 (Nat.le_trans wn44 (by decide)) (by omega)).mono fun v V4 l4 ⟨s1, hv, hs1⟩ => ⟨s1, hv, ?_⟩
   refine (L01 (hd2.le l4) (Nat.le_trans wd44 (by decide)) (by omega)).mono fun v V5 l5 ⟨s2, hv, hs2⟩ => ⟨s2, hv, ?_⟩
   have wb : wn (n * 2 ^ A) ≤ 2 ^ 50 := s04 (by
    have a1 := k08 n (2 ^ A)
    have a2 := L03 A
    omega)
   refine (z04 (hs1.le l5) hs2 wb).mono fun v V6 l6 hv => ⟨_, hv, fun hc => ?_, fun hc => ?_⟩
   · simp only [decide_eq_true_eq] at hc
     have lt : n * 2 ^ A < d * 2 ^ B := by
      rcases Nat.lt_or_ge (n * 2 ^ A) (d * 2 ^ B) with g | g
      · exact g
      · exfalso; rw [if_neg (by omega)] at hc; split at hc <;> omega
     have e : i64.wrap ((bl n : Int) - bl d - 1) = (B : Int) - A - 1 := by rw [i64w (by omega) (by omega)]; omega
     show Mag n d (i64.wrap _) ∧ _ ≤ (i64.wrap _ : Int) ∧ (i64.wrap _ : Int) ≤ _
     rw [e]; exact ⟨hmag.1 lt, by omega, by omega⟩
   · simp only [decide_eq_false_iff_not] at hc
     have ge : d * 2 ^ B ≤ n * 2 ^ A := by
      rcases Nat.lt_or_ge (n * 2 ^ A) (d * 2 ^ B) with g | g
      · exfalso; rw [if_pos g] at hc; omega
      · exact g
     have e : (bl n : Int) - bl d = (B : Int) - A := by omega
     show Mag n d ((bl n : Int) - bl d) ∧ _ ≤ ((bl n : Int) - bl d) ∧ ((bl n : Int) - bl d) ≤ _
     rw [e]; exact ⟨hmag.2 ge, by omega, by omega⟩
 rintro ⟨e⟩ V3 l3 ⟨hM, he1, he2⟩
 have hM : Mag n d e := hM
 have he1 : -(2 ^ 31 : Int) ≤ e := he1
 have he2 : e ≤ (2 ^ 31 : Int) := he2
 dsimp only
 refine ⟨fun hc => ?_, fun hc => ?_⟩
 · simp only [decide_eq_true_eq] at hc
   have hov := hM.over (by omega)
   have hrm : rm (infR - 1) = (2 ^ 53 - 1) * 2 ^ 2045 := w0v (r := infR - 1) (e := 2045) (by decide)
   refine ⟨fun hw => ⟨by omega, ?_⟩, fun hw => ?_⟩
   · have hw : way = 0 := by simpa using hw
     have k1 : u64.wrap (u64.wrap (1 * 2 ^ (min (Int.toNat 53) (IntKind.bits .u64))) - 1) = ((2 ^ 53 - 1 : Nat) : Int) := by decide
     have k2 : i64.wrap (i64.wrap (1023 - 53) + 1) = 971 := by decide
     rw [k1, k2]
     have k3 : (971 + 1074 : Int).toNat = 2045 := by decide
     refine (x0g (n := 2 ^ 53 - 1) (r := infR - 1) (s := 971) (by omega) (by omega) (by omega) (by omega) (by decide) (by rw [k3]; exact hrm)).mono fun v V7 _ hv => ⟨_, hv, _, rfl, ?_⟩
     have hD : z03 (infR - 1) n d := ⟨by decide, Nat.le_trans (Nat.mul_le_mul_right d (o08.2 (by omega))) hov, .inl (by decide)⟩
     exact ⟨fun _ => hD, fun h => by omega, .inl hD⟩
   · have hw : way ≠ 0 := by simpa using hw
     refine w0g.mono fun v V8 _ hv => ⟨_, hv, _, rfl, ?_⟩
     have hU : IsUp infR n d := ⟨Nat.le_refl _, .inl rfl, .inr (Nat.lt_of_lt_of_le (Nat.mul_lt_mul_of_pos_right (o0f (by decide)) d0) hov)⟩
     exact ⟨fun h => absurd h hw, fun _ => hU, .inr hU⟩
 · simp only [decide_eq_false_iff_not] at hc
   have k0 : i64.wrap (i64.wrap (e - 53) + 1) = e - 52 := by
    rw [i64w (n := e - 53) (by omega) (by omega), i64w (by omega) (by omega)]; omega
   obtain ⟨L, hL⟩ : ∃ L, L = max (e - 52) (-1074) := ⟨_, rfl⟩
   have kL : (if (-1074 : Int) > e - 52 then (-1074 : Int) else e - 52) = L := by split <;> omega
   rw [k0, kL]
   have k1 : i64.wrap (0 - L) = -L := by rw [i64w (by omega) (by omega)]; omega
   rw [k1]
   obtain ⟨a, ha⟩ : ∃ a : Nat, (a : Int) = max (-L) 0 := ⟨(max (-L) 0).toNat, by omega⟩
   obtain ⟨b, hb⟩ : ∃ b : Nat, (b : Int) = max L 0 := ⟨(max L 0).toNat, by omega⟩
   obtain ⟨t, ht⟩ : ∃ t : Nat, (t : Int) = L + 1074 := ⟨(L + 1074).toNat, by omega⟩
   have kb : (if (0 : Int) > L then (0 : Int) else L) = (b : Int) := by split <;> omega
   have ka : (if (0 : Int) > -L then (0 : Int) else -L) = (a : Int) := by split <;> omega
   rw [kb, ka]
   have hquo : quo n d L = n * 2 ^ a / (d * 2 ^ b) := by
    unfold quo
    have e1 : (max (-L) 0).toNat = a := by omega
    have e2 : (max L 0).toNat = b := by omega
    rw [e1, e2]
   obtain ⟨hq53, hq52, ht5, hr0, hdown, hup0, hup1, hr1⟩ := N0b d0 hM (by omega) hL ha hb rfl ht
   rw [← hquo] at hq53 hq52 hr0 hdown hup0 hup1 hr1
   have bn : bl (n * 2 ^ a) ≤ 2 ^ 31 := by
    have a1 := k08 n (2 ^ a)
    have a2 := L03 a
    omega
   have bd : bl (d * 2 ^ b) ≤ 2 ^ 31 := by
    have a1 := k08 d (2 ^ b)
    have a2 := L03 b
    omega
   have hub : 0 < d * 2 ^ b := Nat.mul_pos d0 (m06 b)
   refine (L01 (hd2.le l3) (Nat.le_trans wd44 (by decide)) (by omega)).mono fun v V9 l9 ⟨u, hv, hu⟩ => ⟨u, hv, ?_⟩
   refine (L01 (hn2.le (View.le_trans l3 l9)) (Nat.le_trans wn44 (by decide)) (by omega)).mono fun v V10 l10 ⟨s, hv, hs⟩ => ⟨s, hv, ?_⟩
   refine (Y02 hs (hu.le l10) (s04 (by omega)) (by omega)).mono fun v V11 l11 ⟨q, r, hv, hq, hr⟩ => ⟨q, r, hv, ⟨0, rfl, by omega, by simp [wval]⟩, ?_⟩
   rw [← hquo] at hq
   generalize hQ : quo n d L = Q at hq53 hq52 hr0 hdown hup0 hup1 hr1 hq
   have hql : q.len = (dig Q).length := hq.len
   have hq2 : q.len ≤ 2 := by
    have : wn Q ≤ 2 := s04 (by have : bl Q ≤ 53 := y03 hq53; omega)
    simp only [wn] at this; omega
   rintro ⟨y, i'⟩ V12 l12 ⟨i, hi, hil, hy⟩
   have hi : i' = (i : Int) := hi
   have hil : i ≤ q.len := hil
   have hy : y = ((wval ((dig Q).take i) : Nat) : Int) := hy
   subst hi; subst hy
   dsimp only
   have hwl : ∀ j, j ≤ q.len → wval ((dig Q).take j) < 4294967296 ^ j := by
    intro j hj
    have := J0b (l := (dig Q).take j) (fun d hd => q02 Q d (List.mem_of_mem_take hd))
    rw [List.length_take, Nat.min_eq_left (by omega)] at this
    exact this
   refine ⟨fun hlt => ?_, fun hge => ?_⟩
   · simp only [decide_eq_true_eq] at hlt
     have hi' : i < q.len := by omega
     have w32 : i64.wrap (32 * (i : Int)) = ((32 * i : Nat) : Int) := by rw [i64w (by omega) (by omega)]; omega
     rw [w32]
     refine ⟨⟨by omega, by omega, hq.isSome (by omega)⟩, _, (hq.le l12).get (by omega) (by omega), by omega, ?_⟩
     rw [Int.toNat_natCast, Int.toNat_natCast]
     have hg := (q02 Q).getD i
     generalize hwd : (dig Q).getD i 0 = w at hg
     have hyl := hwl i (by omega)
     have hyl2 := hwl (i + 1) (by omega)
     rw [f00, hwd] at hyl2
     generalize hyy : wval ((dig Q).take i) = y at hyl hyl2
     have e4 : 4294967296 ^ i = 2 ^ (32 * i) := by rw [show (4294967296 : Nat) = 2 ^ 32 from rfl, ← Nat.pow_mul]
     have hmin : min (32 * i) u64.bits = 32 * i := Nat.min_eq_left (by show 32 * i ≤ 64; omega)
     have hpow : (2 : Int) ^ (32 * i) = ((2 ^ (32 * i) : Nat) : Int) := by rw [Int.natCast_pow]; rfl
     have hle : 4294967296 ^ (i + 1) ≤ 18446744073709551616 := by
      have : 4294967296 ^ (i + 1) ≤ 4294967296 ^ 2 := Nat.pow_le_pow_right (by omega) (by omega)
      omega
     have hor := Nat.two_pow_add_eq_or_of_lt (i := 32 * i) (b := y) (by rw [← e4]; exact hyl) w
     rw [← e4] at hor
     have hval : u64.wrap (BitVec.toNat ((BitVec.ofInt u64.bits (y : Int)) ||| (BitVec.ofInt u64.bits (u64.wrap ((u64.wrap (w : Int)) * 2 ^ (min (32 * i) (IntKind.bits .u64))))))) = ((y + w * 4294967296 ^ i : Nat) : Int) := by
      have hw64 : w * 4294967296 ^ i < 2 ^ 64 := by omega
      rw [hmin, hpow, ← e4, K03 (y := w) (by omega), ← Int.natCast_mul, K03 hw64, I0n (by omega) hw64]
      congr 1
      rw [Nat.or_comm, Nat.mul_comm w, ← hor]; omega
     rw [hval]
     refine ⟨⟨i + 1, ?_, by show i + 1 ≤ q.len; omega, ?_⟩, ?_⟩
     · show i64.wrap ((i : Int) + 1) = ((i + 1 : Nat) : Int)
       rw [i64w (by omega) (by omega)]; omega
     · show ((y + w * 4294967296 ^ i : Nat) : Int) = ((wval ((dig Q).take (i + 1)) : Nat) : Int)
       rw [f00, hwd, hyy]
     · show ((q.len : Int) - i64.wrap ((i : Int) + 1)).toNat < ((q.len : Int) - (i : Int)).toNat
       rw [i64w (by omega) (by omega)]; omega
   · simp only [decide_eq_false_iff_not] at hge
     have hiq : wval ((dig Q).take i) = Q := by rw [i00 (by omega), n00]
     rw [hiq]
     have hr12 := hr.le l12
     have hrb : n * 2 ^ a % (d * 2 ^ b) < d * 2 ^ b := Nat.mod_lt _ hub
     have hwr : wn (n * 2 ^ a % (d * 2 ^ b)) ≤ 2 ^ 43 := Nat.le_trans (K04 (Nat.le_of_lt hrb)) (s04 (by omega))
     refine (L01 (n := 1) hr12 (Nat.le_trans hwr (by decide)) (by omega)).mono fun v V13 l13 ⟨s2, hv, hs2⟩ => ⟨s2, hv, ?_⟩
     have hw2 : wn (n * 2 ^ a % (d * 2 ^ b) * 2 ^ 1) ≤ 2 ^ 50 := by
      have := C05 (n * 2 ^ a % (d * 2 ^ b)) (2 ^ 1)
      have : wn (2 ^ 1) ≤ 2 ^ 43 := wn64 (by omega)
      omega
     refine (z04 hs2 (hu.le (View.le_trans l10 (View.le_trans l11 (View.le_trans l12 l13)))) hw2).mono fun v V14 l14 hv => ⟨_, hv, ?_⟩
     have hrz : r.len = 0 ↔ n * 2 ^ a % (d * 2 ^ b) = 0 := hr.len_zero
     have qs : Rnd way (t * 2 ^ 52 + Q) n d → (∃ m r t' : Nat, (Q : Int) = m ∧ m ≤ 2 ^ 53 ∧ (t' : Int) = L + 1074 ∧ t' ≤ 2045 ∧ r = t' * 2 ^ 52 + m ∧ rm r = m * 2 ^ t' ∧ Rnd way r n d) :=
      fun h => ⟨Q, _, t, rfl, by omega, ht, ht5, rfl, hr0, h⟩
     have ps : Rnd way (t * 2 ^ 52 + Q + 1) n d → (∃ m r t' : Nat, u64.wrap ((Q : Int) + 1) = m ∧ m ≤ 2 ^ 53 ∧ (t' : Int) = L + 1074 ∧ t' ≤ 2045 ∧ r = t' * 2 ^ 52 + m ∧ rm r = m * 2 ^ t' ∧ Rnd way r n d) :=
      fun h => ⟨Q + 1, t * 2 ^ 52 + Q + 1, t, by rw [u64w (by omega) (by omega)]; omega, by omega, ht, ht5, by omega, hr1, h⟩
     have notup : way ≠ 1 → Rnd way (t * 2 ^ 52 + Q) n d := fun h => ⟨fun _ => hdown, fun e => absurd e h, .inl hdown⟩
     have near : way ≠ 1 → way ≠ 0 → Rnd way (t * 2 ^ 52 + Q + 1) n d ∨ n * 2 ^ a % (d * 2 ^ b) = 0 := by
      intro h h'
      by_cases z : n * 2 ^ a % (d * 2 ^ b) = 0
      · exact .inr z
      · exact .inl ⟨fun e => absurd e h', fun e => absurd e h, .inr (hup1 z)⟩
     refine ⟨⟨fun hw => ?_, fun hw => ?_⟩, ?_⟩
     · have hw : way = 1 := by simpa using hw
       refine ⟨fun hz => ?_, fun hz => ?_⟩
       · simp only [decide_eq_true_eq] at hz
         have z : n * 2 ^ a % (d * 2 ^ b) ≠ 0 := fun z => by have := hrz.2 z; rw [this] at hz; simp at hz
         exact ps ⟨fun h => absurd (h.symm.trans hw : (0 : Int) = 1) (by decide), fun _ => hup1 z, .inr (hup1 z)⟩
       · simp only [decide_eq_false_iff_not] at hz
         have z0 : r.len = 0 := by generalize r.len = k at hz; omega
         have z := hrz.1 z0
         have g := qs ⟨fun h => absurd (h.symm.trans hw : (0 : Int) = 1) (by decide), fun _ => hup0 z, .inl hdown⟩
         refine ⟨fun h => ?_, fun _ => g⟩
         have h : way = 2 := by simpa using h
         exact absurd (h.symm.trans hw : (2 : Int) = 1) (by decide)
     · have hw : way ≠ 1 := by simpa using hw
       have g := qs (notup hw)
       refine ⟨fun h2 => ?_, fun _ => g⟩
       have h2 : way = 2 := by simpa using h2
       have h20 : way ≠ 0 := fun e => absurd (h2.symm.trans e : (2 : Int) = 0) (by decide)
       have pz : n * 2 ^ a % (d * 2 ^ b) ≠ 0 → (∃ m r t' : Nat, u64.wrap ((Q : Int) + 1) = m ∧ m ≤ 2 ^ 53 ∧ (t' : Int) = L + 1074 ∧ t' ≤ 2045 ∧ r = t' * 2 ^ 52 + m ∧ rm r = m * 2 ^ t' ∧ Rnd way r n d) :=
        fun z => ps ⟨fun e => absurd e h20, fun e => absurd e hw, .inr (hup1 z)⟩
       -- a half is more than nothing
       have cmpz : n * 2 ^ a % (d * 2 ^ b) = 0 → (if n * 2 ^ a % (d * 2 ^ b) * 2 ^ 1 < d * 2 ^ b then (-1 : Int) else if n * 2 ^ a % (d * 2 ^ b) * 2 ^ 1 = d * 2 ^ b then 0 else 1) = -1 := by
        intro z; rw [z, Nat.zero_mul, if_pos hub]
       refine ⟨fun h3 => pz fun z => ?_, fun h3 => ⟨fun h4 => ⟨fun h5 => pz fun z => ?_, fun _ => g⟩, fun _ => g⟩⟩
       · rw [cmpz z] at h3; simp at h3
       · rw [cmpz z] at h4; simp at h4
     rintro ⟨x⟩ V15 l15 ⟨m, r, t', hx, hm, ht', ht5', hr', hrm', hR⟩
     have hx : x = (m : Int) := hx
     subst hx
     dsimp only at ht' ⊢
     have htt : t' = t := by have e := ht'.trans ht.symm; exact Int.ofNat.inj e
     subst htt
     have k53 : u64.wrap (1 * 2 ^ (min (Int.toNat 53) (IntKind.bits .u64))) = ((2 ^ 53 : Nat) : Int) := by decide
     have k971 : i64.wrap (i64.wrap (1023 - 53) + 1) = 971 := by decide
     rw [k53, k971]
     refine ⟨⟨by omega, fun h1 => ⟨fun h2 => ?_, fun h2 => ?_⟩, fun h1 => ?_⟩, ?_⟩
     · have h1 : m = 2 ^ 53 := Int.ofNat.inj (by simpa using h1)
       have h2 : L = 971 := by simpa using h2
       have hri : r = infR := by
        rw [hr', h1]
        have : t' = 2045 := by rw [h2] at ht'; exact Int.ofNat.inj ht'
        rw [this]; decide
       refine w0g.mono fun v V17 _ hv => ⟨_, hv, r, by rw [hri], hR⟩
     · have h1 : m = 2 ^ 53 := Int.ofNat.inj (by simpa using h1)
       have h2 : L ≠ 971 := by simpa using h2
       refine ⟨m, r, t', rfl, hm, ht', ht5', ?_, hr', hrm', hR⟩
       rw [hr', h1]
       exact P0u ht5' (z0t ht' h2)
     · have h1 : m ≠ 2 ^ 53 := fun e => by rw [e] at h1; simp at h1
       refine ⟨m, r, t', rfl, hm, ht', ht5', ?_, hr', hrm', hR⟩
       rw [hr']
       exact Q0u ht5' hm h1
     rintro _ V16 l16 ⟨m', r', t2, hm1, hm2, ht2, ht3, hri, hre, hrm2, hR2⟩
     have hm1 : (m : Int) = m' := hm1
     have hmm : m = m' := Int.ofNat.inj hm1
     subst hmm
     have ht2 : (t2 : Int) = L + 1074 := ht2
     by_cases m0 : m = 0
     · subst m0
       have r0 : r' = 0 := t0v (by rw [hrm2, Nat.zero_mul, p08])
       refine Q0p.mono fun v V18 _ hv => ⟨_, hv, r', by rw [r0], hR2⟩
     · refine (x0g (n := m) (s := L) (r := r') m0 hm2 (K0n ht2 ht3).1 (K0n ht2 ht3).2 hri ?_).mono fun v V18 _ hv => ⟨_, hv, r', rfl, hR2⟩
       · rw [← ht2, Int.toNat_natCast]; exact hrm2

theorem C03 (r : Nat) : t01 (r : Int) = r := by unfold t01; rw [if_neg (by omega)]; omega
theorem b0s {r : Nat} (h : 0 < r) : t01 (-(r : Int)) = 2 ^ 63 + r := by unfold t01; rw [if_pos (by omega)]; omega
theorem S0p {V : View} {sn sd : Sl} {n d : Nat} {w : Int} {R : Nat → Prop} (_ : n ≠ 0) (_ : 0 < d)
 (h : a00 prog e08 #[(X06.mk 53 (-1074) 1023).val, sn.v, sd.v, .int .i64 w] V fun v _ => ∃ r : Nat, v = .float .f64 r ∧ (z03 r n d ∨ IsUp r n d) ∧ R r) {Q : Value → View → Prop}
 (k : ∀ r V', R r → r ≤ infR → (0 < r → Q (.float .f64 (2 ^ 63 + r)) V') ∧ (r = 0 → Q (.float .f64 0) V')) :
 a00 prog e08 #[(X06.mk 53 (-1074) 1023).val, sn.v, sd.v, .int .i64 w] V fun v V2 => ∃ r2 : Nat, v = .float .f64 r2 ∧
  ((FloatKind.f64.format.order r2 0 != some .eq) = true → Q (.float .f64 (Op.negFloat .f64 r2)) V2) ∧ ((FloatKind.f64.format.order r2 0 != some .eq) = false → Q (.float .f64 0) V2) := by
 refine h.mono fun v V2 _ ⟨r, hv, hd, hR⟩ => ⟨r, hv, ?_⟩
 have hr : r ≤ infR := by
  rcases hd with h | h
  · exact Nat.le_of_lt h.lt
  · exact h.le
 have hr63 : r < 2 ^ 63 := by unfold infR at hr; omega
 have hok : okW r := ⟨by omega, by rw [Nat.mod_eq_of_lt hr63]; exact hr⟩
 have hkey : key r = (r : Int) := a0b hr63
 have k0 : key 0 = 0 := by decide
 have e : (FloatKind.f64.format.order r 0 != some .eq) = !decide ((r : Int) = 0) := by
  show (!(FloatKind.f64.format.order r 0 == some .eq)) = _
  rw [N0a hok (by decide), hkey, k0]
 rw [e]
 obtain ⟨k1, k2⟩ := k r V2 hR hr
 refine ⟨fun h1 => ?_, fun h1 => ?_⟩
 · have h1 : r ≠ 0 := fun c => by subst c; simp at h1
   rw [B07 (by omega), if_pos hr63, Nat.add_comm]
   exact k1 (by omega)
 · have h1 : r = 0 := by
     by_cases c : r = 0
     · exact c
     · rw [decide_eq_false (by omega)] at h1; simp at h1
   exact k2 h1
theorem j0e {V : View} {x : WhV} {s : Sl} {A : Int} {D : Nat} {way : Int} (hw : way = 0 ∨ way = 1) (hx : W00 V x A) (hs : e00 V s D) (D0 : 0 < D) (zA : bl A.natAbs ≤ 2 ^ 30) (zD : bl D ≤ 2 ^ 30) :
 a00 prog U0g #[(X06.mk 53 (-1074) 1023).val, x.val, s.v, .int .i64 way] V fun v _ =>
  v = .float .f64 (t01 (if 0 ≤ A then (if way = 0 then (D07 A.natAbs D : Int) else (upK A.natAbs D : Int)) else (if way = 0 then -(upK A.natAbs D : Int) else -(D07 A.natAbs D : Int)))) := by
 refine W0e (X06.mk 53 (-1074) 1023) x s way V _ ⟨fun h => ?_, fun h => ?_⟩
 · have hA : 0 ≤ A := by rw [hx.1] at h; simpa using h
   refine (A0g way hx.2 hs D0 zA zD).mono fun v V1 _ ⟨r, hv, hR⟩ => ⟨r, hv, ?_⟩
   rw [if_pos hA]
   rcases hw with rfl | rfl
   · rw [if_pos rfl, (hR.down rfl).unique D0 (I03 D0), C03]
   · rw [if_neg (by decide), (hR.up rfl).unique D0 (W05 D0), C03]
 · have hA : A < 0 := by rw [hx.1] at h; simpa using h
   have n0 : A.natAbs ≠ 0 := by omega
   have hnA : ¬ 0 ≤ A := by omega
   refine ⟨fun _ => ?_, fun h2 => ?_⟩
   · have hw2 : i64.wrap (1 - way) = 1 - way := i64w (by omega) (by omega)
     rw [hw2, if_neg hnA]
     refine S0p (Q := fun v _ => v = .float .f64 (t01 (if way = 0 then -(upK A.natAbs D : Int) else -(D07 A.natAbs D : Int)))) (R := fun r => Rnd (1 - way) r A.natAbs D) n0 D0 ((A0g (1 - way) hx.2 hs D0 zA zD).mono fun v V1 _ ⟨r, hv, hR⟩ => ⟨r, hv, hR.any, hR⟩) fun r V' hR hr => ?_
     have hrv : (r : Int) = if way = 0 then (upK A.natAbs D : Int) else (D07 A.natAbs D : Int) := by
      rcases hw with rfl | rfl
      · rw [if_pos rfl, (hR.up (by decide)).unique D0 (W05 D0)]
      · rw [if_neg (by decide), (hR.down (by decide)).unique D0 (I03 D0)]
     have e : (if way = 0 then -(upK A.natAbs D : Int) else -(D07 A.natAbs D : Int)) = -(r : Int) := by
      rw [hrv]; split <;> rfl
     rw [e]
     refine ⟨fun h0 => ?_, fun h0 => ?_⟩
     · rw [b0s h0]
     · rw [h0]; rfl
   · exfalso
     have h2 : way = 2 := by simpa using h2
     omega
theorem L0n (z : Cq) : z.re.num * (z.D : Int) = z.A * (z.re.den : Int) := by
 have h := z.canon.rep
 have h1 : ((z.re.num : Int) : Rat) / ((z.re.den : Nat) : Rat) = (z.A : Rat) / (z.D : Rat) := by
  rw [← h.re, ← Rat.mkRat_eq_div]; exact Rat.mkRat_self z.re
 exact (p01 z.re.den_nz h.pos).1 h1
theorem p0i (z : Cq) : 0 ≤ z.A ↔ 0 ≤ z.re.num := by
 have h := L0n z
 have h1 : (0 : Int) < (z.D : Int) := by have := z.canon.rep.pos; omega
 have h2 : (0 : Int) < (z.re.den : Int) := by have := z.re.den_nz; omega
 constructor
 · intro g
   refine Int.not_lt.1 fun c => ?_
   have a := Int.mul_neg_of_neg_of_pos c h1
   have b := Int.mul_nonneg g (Int.le_of_lt h2)
   omega
 · intro g
   refine Int.not_lt.1 fun c => ?_
   have a := Int.mul_neg_of_neg_of_pos c h2
   have b := Int.mul_nonneg g (Int.le_of_lt h1)
   omega
theorem Y0t (z : Cq) : z.A.natAbs * z.re.den = z.re.num.natAbs * z.D := by
 have h := congrArg Int.natAbs (L0n z)
 rw [Int.natAbs_mul, Int.natAbs_mul, Int.natAbs_natCast, Int.natAbs_natCast] at h
 exact h.symm
theorem c0s (z : Cq) : D07 z.A.natAbs z.D = D07 z.re.num.natAbs z.re.den := by
 have d1 : 0 < z.D := by have := z.canon.rep.pos; omega
 have d2 : 0 < z.re.den := by have := z.re.den_nz; omega
 exact ((I03 d1).congr d1 d2 (Y0t z)).unique d2 (I03 d2)
theorem U0v (z : Cq) : upK z.A.natAbs z.D = upK z.re.num.natAbs z.re.den := by
 have d1 : 0 < z.D := by have := z.canon.rep.pos; omega
 have d2 : 0 < z.re.den := by have := z.re.den_nz; omega
 exact ((W05 d1).congr d1 d2 (Y0t z)).unique d2 (W05 d2)
theorem k0e {V : View} : a00 prog u0j #[] V fun v _ => v = (X06.mk 53 (-1074) 1023).val := z0h V _ rfl
theorem T0p {V : View} {x : NumV} {z : Cq} (hx : G00 V x z) (hz : z.sz ≤ 2 ^ 30) : a00 prog y0l #[x.val] V fun v _ => v = .float .f64 (t01 (g01 z.re)) := by
 have zA := z.szA; have zD := z.szD
 refine W0j x V _ (k0e.mono fun v V1 l1 hv => ⟨_, hv, (y00 (hx.le l1)).mono fun v V2 l2 ⟨s, hv, hs⟩ => ⟨s, hv, ?_⟩⟩)
 refine (j0e (way := 0) (.inl rfl) ((hx.le (View.le_trans l1 l2)).re) hs (by have := z.canon.rep.pos; omega) (by omega) (by omega)).mono fun v V3 _ hv => ⟨_, hv, ?_⟩
 unfold g01
 rw [c0s z, U0v z]
 by_cases c : 0 ≤ z.A
 · rw [if_pos c, if_pos ((p0i z).1 c), if_pos rfl]
 · rw [if_neg c, if_neg (fun g => c ((p0i z).2 g)), if_pos rfl]
theorem B0g {V : View} {x : NumV} {z : Cq} (hx : G00 V x z) (hz : z.sz ≤ 2 ^ 30) : a00 prog z0l #[x.val] V fun v _ => v = .float .f64 (t01 (U02 z.re)) := by
 have zA := z.szA; have zD := z.szD
 refine X0j x V _ (k0e.mono fun v V1 l1 hv => ⟨_, hv, (y00 (hx.le l1)).mono fun v V2 l2 ⟨s, hv, hs⟩ => ⟨s, hv, ?_⟩⟩)
 refine (j0e (way := 1) (.inr rfl) ((hx.le (View.le_trans l1 l2)).re) hs (by have := z.canon.rep.pos; omega) (by omega) (by omega)).mono fun v V3 _ hv => ⟨_, hv, ?_⟩
 unfold U02
 rw [c0s z, U0v z]
 by_cases c : 0 ≤ z.A
 · rw [if_pos c, if_pos ((p0i z).1 c), if_neg (by decide)]
 · rw [if_neg c, if_neg (fun g => c ((p0i z).2 g)), if_neg (by decide)]

theorem m09 (a b : Rat) : (⟨a, 0⟩ : Cq) * ⟨b, 0⟩ = ⟨a * b, 0⟩ := Cq.ext' (by rw [g03]; grind) (by rw [E03]; grind)
theorem c0c (a b : Rat) : (⟨a, 0⟩ : Cq) + ⟨b, 0⟩ = ⟨a + b, 0⟩ := Cq.ext' (by rw [Q04]) (by rw [S04]; grind)
theorem I0g (a : Rat) : -(⟨a, 0⟩ : Cq) = ⟨-a, 0⟩ := Cq.ext' (by rw [t0b]) (by rw [u0b]; grind)
theorem Z0t (x : Nat) : fq x = fkq (key x) := rfl
theorem S0u : fq 0 = 0 := by
 unfold fq
 have : kz (key 0) = 0 := by decide
 rw [this]; rw [Rat.div_def]; exact Rat.zero_mul _
structure BdAt (V : View) (b : BdV) (e : Eb) : Prop where
 inf : b.inf = e.inf
 num : G00 V b.x e.num
 ok : e.ok
theorem BdAt.le {V V' : View} {b : BdV} {e : Eb} (hle : V.le V') (h : BdAt V b e) : BdAt V' b e := ⟨h.inf, h.num.le hle, h.ok⟩
theorem BdAt.range {V : View} {b : BdV} {e : Eb} (h : BdAt V b e) : e.inf = 0 ∨ e.inf = 1 ∨ e.inf = -1 := by
 rcases h.ok with h | ⟨_, h⟩
 · exact .inl h
 · exact .inr h
theorem BdAt.zero (V : View) : BdAt V (BdV.mk 0 (NumV.mk (WhV.mk false (Sl.mk none 0 0)) (WhV.mk false (Sl.mk none 0 0)) (Sl.mk none 0 0))) (Eb.fin 0) := ⟨rfl, G00.zero V, .inl rfl⟩
theorem BdAt.infty (V : View) {i : Int} (h : i = 1 ∨ i = -1) : BdAt V (BdV.mk i (NumV.mk (WhV.mk false (Sl.mk none 0 0)) (WhV.mk false (Sl.mk none 0 0)) (Sl.mk none 0 0))) ⟨i, 0⟩ := ⟨rfl, G00.zero V, .inr ⟨rfl, h⟩⟩
theorem BdAt.signs (V : View) {i : Int} (h : (⟨i, 0⟩ : Eb).ok) : BdAt V (BdV.mk i (NumV.mk (WhV.mk false (Sl.mk none 0 0)) (WhV.mk false (Sl.mk none 0 0)) (Sl.mk none 0 0))) ⟨i, 0⟩ := ⟨rfl, G00.zero V, h⟩
theorem d0s {r : Nat} (h : r ≤ infR) : rm r < 2 ^ 2099 := by
 have h1 : rm r ≤ rm infR := o08.2 h
 obtain ⟨e, he⟩ : ∃ e, e = 2046 := ⟨_, rfl⟩
 rw [W0d he] at h1
 exact Nat.lt_of_le_of_lt h1 (l0r (a := 52 + e) (b := 2099) (by omega))
theorem E08 (D : Nat) : (0 : Rat) = ((0 : Int) : Rat) / (D : Rat) := by simp [Rat.div_def]
theorem e0s {k : Int} (h : inK k) : (⟨fkq k, 0⟩ : Cq).sz ≤ 2100 := by
 have R : Rep ⟨fkq k, 0⟩ (kz k) 0 (2 ^ 1074) := ⟨Z0r, rfl, E08 _⟩
 have hk : (kz k).natAbs = rm k.natAbs := by unfold kz; split <;> omega
 refine R.sz ?_ (by simp [Y04]) ?_
 · rw [hk]
   have h2 : k.natAbs ≤ infR := by unfold inK at h; omega
   have := y03 (d0s h2)
   omega
 · have := L03 1074; omega
theorem Z09 {k : Int} (h : inK k) : (endE k).num.sz ≤ 2100 := by
 have z : (Cq.zero).sz ≤ 2100 := Nat.le_trans M03 (by omega)
 unfold endE Eb.num
 split
 · exact z
 · split
   · exact z
   · exact e0s h
theorem l0e {V : View} {x : Nat} (h : finW x) : a00 prog F0l #[.float .f64 x] V fun v V' => ∃ r : NumV, v = r.val ∧ G00 V' r ⟨fkq (key x), 0⟩ := by
 refine O0j x V _ ((C0c (c := CxV.mk x 0) h (show finW 0 from ⟨by decide, by decide⟩)).mono fun v V1 _ ⟨r, hv, hr⟩ => ⟨r, 0, hv, r, rfl, ?_⟩)
 have hr : G00 V1 r ⟨fq x, fq 0⟩ := hr
 rw [S0u, Z0t] at hr; exact hr
theorem M0n {V : View} {x : Nat} (h : okW x) : a00 prog K0q #[.float .f64 x] V fun v V' => ∃ b : BdV, v = b.val ∧ BdAt V' b (endE (key x)) := by
 have hk := Q0r h
 refine q0p x V _ ((n0i h.1).mono fun v V1 _ hv => ⟨_, hv, fun hc => ?_, fun hc => ?_⟩)
 · have hc : key x = (infR : Int) := by simp only [decide_eq_true_eq] at hc; exact hc.2
   refine ⟨_, rfl, ?_⟩
   unfold endE; rw [if_pos hc]; exact .infty V1 (.inl rfl)
 have hc : key x ≠ (infR : Int) := by simp only [decide_eq_false_iff_not] at hc; exact fun e => hc ⟨h, e⟩
 refine (W0b h.1).mono fun v V2 _ hv => ⟨_, hv, fun hd => ?_, fun hd => ?_⟩
 · have hd : key x = -(infR : Int) := by simp only [decide_eq_true_eq] at hd; exact hd.2
   refine ⟨_, rfl, ?_⟩
   unfold endE; rw [if_neg hc, if_pos hd]; exact .infty V2 (.inr rfl)
 have hd : key x ≠ -(infR : Int) := by simp only [decide_eq_false_iff_not] at hd; exact fun e => hd ⟨h, e⟩
 have hf : finW x := by
  refine ⟨h.1, ?_⟩
  have a := K0a h.1
  have : (key x).natAbs < infR := by omega
  omega
 refine (l0e hf).mono fun v V3 _ ⟨r, hv, hr⟩ => ⟨r, hv, _, rfl, ?_⟩
 unfold endE; rw [if_neg hc, if_neg hd]; exact ⟨rfl, hr, .inl rfl⟩
theorem D0c {V : View} (a b : Int) : a00 prog s0a #[.int .i64 a, .int .i64 b] V fun v _ => v = .int .i64 (cmpZ a b) := by
 have nan : ∀ {V : View} (a : Int), a00 prog J0c #[.int .i64 a] V fun v _ => v = .bool false := fun a => G0b a _ _ (by simp)
 refine Q09 a b V _ ((nan a).mono fun v V1 _ hv => ⟨_, hv, (nan b).mono fun v V2 _ hv => ⟨_, hv, fun h => absurd h (by simp), fun _ => ⟨fun h => absurd h (by simp), fun _ => ⟨fun h => ?_, fun h => ⟨fun h' => ?_, fun h' => ?_⟩⟩⟩⟩⟩)
 · rw [P0h (by simpa using h)]
 · rw [s0m (by simpa using h')]
 · simp only [decide_eq_false_iff_not] at h h'
   rw [q0m (by omega)]
theorem L0m (x y : Rat) : (⟨x, 0⟩ : Cq).cmp ⟨y, 0⟩ = cmpR x y := by
 unfold Cq.cmp
 dsimp only
 by_cases c : cmpR x y = 0
 · rw [c]; rw [if_neg (by simp)]; unfold cmpR; rw [if_neg (by grind), if_pos rfl]
 · rw [if_pos c]
theorem k03 {V : View} {a b : BdV} {e f : Eb} (ha : BdAt V a e) (hb : BdAt V b f) (hz : e.num.sz ≤ 2 ^ 40) (hw : f.num.sz ≤ 2 ^ 40) :
 a00 prog s0l #[a.val, b.val] V fun v _ => v = .int .i64 (e.cmp f) := by
 have ia := ha.inf
 have ib := hb.inf
 refine P0j a b V _ ⟨fun h => ?_, fun h => ⟨fun h' => ?_, fun h' => ?_⟩⟩
 · have h : e.inf ≠ 0 := by rw [← ia]; simpa using h
   refine (D0c a.inf b.inf).mono fun v V1 _ hv => ⟨_, hv, ?_⟩
   unfold Eb.cmp; rw [if_pos (.inl h), ia, ib]
 · have h' : f.inf ≠ 0 := by rw [← ib]; simpa using h'
   refine (D0c a.inf b.inf).mono fun v V1 _ hv => ⟨_, hv, ?_⟩
   unfold Eb.cmp; rw [if_pos (.inr h'), ia, ib]
 · have h : e.inf = 0 := by rw [← ia]; simpa using h
   have h' : f.inf = 0 := by rw [← ib]; simpa using h'
   refine (C08 ha.num hb.num hz hw).mono fun v V1 _ hv => ⟨_, hv, ?_⟩
   unfold Eb.cmp; rw [if_neg (by rw [h, h']; simp)]
   exact congrArg _ (L0m e.x f.x)
theorem q0i : (Eb.fin 0).num.sz ≤ 1 := M03
theorem z02 {V : View} {a : BdV} {e : Eb} (ha : BdAt V a e) (hz : e.num.sz ≤ 2 ^ 40) : a00 prog c08 #[a.val] V fun v _ => v = .int .i64 e.sign :=
 u0h a V _ ((k03 ha (BdAt.zero V) hz (Nat.le_trans q0i (by decide))).mono fun v V1 _ hv => ⟨_, hv, rfl⟩)
theorem T00 {V : View} {a : BdV} {e : Eb} (ha : BdAt V a e) : a00 prog w0l #[a.val] V fun v V' => ∃ b : BdV, v = b.val ∧ BdAt V' b e.neg := by
 refine Q0j a V _ ((A08 ha.num).mono fun v V1 _ ⟨r, hv, hr⟩ => ⟨r, hv, _, rfl, ?_⟩)
 have ia := ha.inf
 have hr' := ha.range
 have e1 : i64.wrap (0 - a.inf) = -e.inf := by rw [i64w (by omega) (by omega)]; omega
 refine ⟨e1, ?_, Eb.neg_ok ha.ok⟩
 have : -e.num = e.neg.num := I0g e.x
 rw [← this]; exact hr
theorem G09 {V : View} {a b : BdV} {e f : Eb} (ha : BdAt V a e) (hb : BdAt V b f) (hz : e.num.sz ≤ 2 ^ 40) (hw : f.num.sz ≤ 2 ^ 40) :
 a00 prog B0l #[a.val, b.val] V fun v V' => ∃ c : BdV, v = c.val ∧ BdAt V' c (e.add f) := by
 have ia := ha.inf
 have ib := hb.inf
 refine S0j a b V _ ⟨fun h => ?_, fun h => ⟨fun h' => ?_, fun h' => ?_⟩⟩
 · have h : e.inf ≠ 0 := by rw [← ia]; simpa using h
   refine ⟨a, rfl, ?_⟩
   unfold Eb.add; rw [if_pos h]; exact ha
 · have h : e.inf = 0 := by rw [← ia]; simpa using h
   have h' : f.inf ≠ 0 := by rw [← ib]; simpa using h'
   refine ⟨b, rfl, ?_⟩
   unfold Eb.add; rw [if_neg (by rw [h]; simp), if_pos h']; exact hb
 · have h : e.inf = 0 := by rw [← ia]; simpa using h
   have h' : f.inf = 0 := by rw [← ib]; simpa using h'
   refine (I02 ha.num hb.num hz hw).mono fun v V1 _ ⟨r, hv, hr⟩ => ⟨r, hv, _, rfl, ?_⟩
   unfold Eb.add; rw [if_neg (by rw [h]; simp), if_neg (by rw [h']; simp)]
   refine ⟨rfl, ?_, .inl rfl⟩
   have : e.num + f.num = (⟨0, e.x + f.x⟩ : Eb).num := c0c e.x f.x
   rw [← this]; exact hr
theorem l03 {V : View} {a b : BdV} {e f : Eb} (ha : BdAt V a e) (hb : BdAt V b f) (hz : e.num.sz ≤ 2 ^ 40) (hw : f.num.sz ≤ 2 ^ 40) :
 a00 prog A0l #[a.val, b.val] V fun v V' => ∃ c : BdV, v = c.val ∧ BdAt V' c (e.mul f) := by
 have ia := ha.inf
 have ib := hb.inf
 have key : ¬ (e.inf = 0 ∧ f.inf = 0) → ∀ {W : View}, V.le W → a00 prog c08 #[a.val] W fun v V2 => ∃ r2 : Int, v = .int .i64 r2 ∧ a00 prog c08 #[b.val] V2 fun v V3 => ∃ r3 : Int, v = .int .i64 r3 ∧
  ∃ c : BdV, (BdV.mk (i64.wrap (r2 * r3)) (NumV.mk (WhV.mk false (Sl.mk none 0 0)) (WhV.mk false (Sl.mk none 0 0)) (Sl.mk none 0 0))).val = c.val ∧ BdAt V3 c (e.mul f) := by
  intro hn W hle
  refine (z02 (ha.le hle) hz).mono fun v V2 l2 hv => ⟨_, hv, (z02 (hb.le (View.le_trans hle l2)) hw).mono fun v V3 _ hv => ⟨_, hv, _, rfl, ?_⟩⟩
  have r1 : e.sign = -1 ∨ e.sign = 0 ∨ e.sign = 1 := Eb.cmp_range _ _
  have r2 : f.sign = -1 ∨ f.sign = 0 ∨ f.sign = 1 := Eb.cmp_range _ _
  have hm := Eb.mul_ok e f
  unfold Eb.mul at hm ⊢
  rw [if_neg hn] at hm ⊢
  have : i64.wrap (e.sign * f.sign) = e.sign * f.sign := by
   rcases r1 with r1 | r1 | r1 <;> rcases r2 with r2 | r2 | r2 <;> rw [r1, r2] <;> decide
  rw [this]; exact .signs V3 hm
 refine T0j a b V _ ⟨fun h => ⟨fun h' => ?_, fun h' => ?_⟩, fun h => ?_⟩
 · have h : e.inf = 0 := by rw [← ia]; simpa using h
   have h' : f.inf = 0 := by rw [← ib]; simpa using h'
   refine (z01 ha.num hb.num hz hw).mono fun v V1 _ ⟨r, hv, hr⟩ => ⟨r, hv, _, rfl, ?_⟩
   unfold Eb.mul; rw [if_pos ⟨h, h'⟩]
   refine ⟨rfl, ?_, .inl rfl⟩
   have : e.num * f.num = (⟨0, e.x * f.x⟩ : Eb).num := m09 e.x f.x
   rw [← this]; exact hr
 · have h' : f.inf ≠ 0 := by rw [← ib]; simpa using h'
   exact key (fun g => h' g.2) (View.le_refl V)
 · have h : e.inf ≠ 0 := by rw [← ia]; simpa using h
   exact key (fun g => h g.1) (View.le_refl V)
theorem a06 (e : Eb) : e.neg.num.sz = e.num.sz := by
 have : -e.num = e.neg.num := I0g e.x
 rw [← this]; exact L08 _
theorem C0g (e f : Eb) : (e.add f).num.sz ≤ e.num.sz + f.num.sz + 1 := by
 unfold Eb.add; split
 · omega
 · split
   · omega
   · have : e.num + f.num = (⟨0, e.x + f.x⟩ : Eb).num := c0c e.x f.x
     rw [← this]; exact j04 _ _
theorem b06 (e f : Eb) : (e.mul f).num.sz ≤ e.num.sz + f.num.sz + 1 := by
 unfold Eb.mul; split
 · have : e.num * f.num = (⟨0, e.x * f.x⟩ : Eb).num := m09 e.x f.x
   rw [← this]; exact m02 _ _
 · exact Nat.le_trans M03 (by omega)
def bdC (V : View) (x : List Value) (e : Eb) : Prop := ∃ b : BdV, x = b.val.cells.toList ∧ BdAt V b e
theorem bdC.le {V V' : View} (hle : V.le V') (x : List Value) (e : Eb) (h : bdC V x e) : bdC V' x e := by
 obtain ⟨b, e1, hb⟩ := h; exact ⟨b, e1, hb.le hle⟩
def t0f (V : View) (s : Sl) (es : List Eb) : Prop := E02 6 bdC V s es
theorem t0f.le {V V' : View} (hle : V.le V') {s : Sl} {es : List Eb} (h : t0f V s es) : t0f V' s es := E02.le (bdC.le hle) hle h
theorem U0p {V : View} {a b : BdV} {e f : Eb} {p : Option Addr} {way : Int} (ha : BdAt V a e) (hb : BdAt V b f) (hz : e.num.sz ≤ 2 ^ 40) (hw : f.num.sz ≤ 2 ^ 40) (hp : V.load p = some (.int .i64 way)) :
 a00 prog C0j #[a.val, b.val, .pointer p] V fun v _ => v = .bool (decide (e.cmp f = way)) :=
 w0h a b p V _ ⟨way, hp, (k03 ha hb hz hw).mono fun v V1 _ hv => ⟨_, hv, by
  congr 1⟩⟩
theorem d0b (way : Int) : ∀ {es : List Eb} {i : Nat} (h : i + 1 < es.length), Eb.pick way (es.take (i + 2)) = if Eb.cmp es[i + 1] (Eb.pick way (es.take (i + 1))) = way then es[i + 1] else Eb.pick way (es.take (i + 1))
 | [], _, h => by simp at h
 | e :: es, i, h => by
   have hi : i < es.length := by simpa using h
   have e1 : (e :: es).take (i + 2) = e :: es.take (i + 1) := rfl
   have e2 : (e :: es).take (i + 1) = e :: es.take i := rfl
   have e3 : es.take (i + 1) = es.take i ++ [es[i]] := by rw [List.take_add_one]; simp [hi]
   have e4 : (e :: es)[i + 1] = es[i] := rfl
   rw [e1, e2, e3, e4]
   show List.foldl _ e (es.take i ++ [es[i]]) = _
   rw [List.foldl_append]; rfl
theorem A0t (a : Option Addr) (k : Nat) : Option.map (fun q => Addr.add q (Int.toNat (k : Int) * 6)) (Option.map (fun q => Addr.add q (Int.toNat 1 * 6)) a) = Option.map (fun q => Addr.add q ((k + 1) * 6)) a := by
 rw [Option.map_map]
 congr 1
 funext q
 show (q.add (Int.toNat 1 * 6)).add (Int.toNat (k : Int) * 6) = _
 rw [k0k, Int.toNat_natCast]
 congr 1
 show 1 * 6 + k * 6 = (k + 1) * 6
 omega
theorem G0k {V : View} {s : Sl} {es : List Eb} {way : Int} (h : t0f V s es) (h0 : es ≠ []) (hn : es.length ≤ 2 ^ 32) (hS : ∀ e ∈ es, e.num.sz ≤ 2 ^ 40) :
 a00 prog H0o #[.int .i64 way, s.v] V fun v V' => ∃ b : BdV, v = b.val ∧ BdAt V' b (Eb.pick way es) := by
 have hl := h.len
 have hcap := h.cap
 have h1 : 1 ≤ es.length := by
  rcases Nat.eq_zero_or_pos es.length with c | c
  · exact absurd (List.eq_nil_of_length_eq_zero c) h0
  · exact c
 refine Y0l way s V _ (fun _ x V' => ∃ i : Nat, x.t16 = i ∧ i + 1 ≤ es.length ∧ BdAt V' x.o6 (Eb.pick way (es.take (i + 1))) ∧ (Eb.pick way (es.take (i + 1))).num.sz ≤ 2 ^ 40) (fun _ x _ => (es.length - x.t16).toNat) ?_
 intro b1 V1 l1 hb1
 obtain ⟨hb, x, ⟨b0, hx, hb0⟩, _, hh, hs⟩ := E02.get (h.le l1) (t := 0) (by omega) (z := es[0]) (by simp)
 refine ⟨hb, b0, hx ▸ hh, hs, ⟨by omega, by omega, by omega⟩, ⟨0, rfl, h1, ?_, ?_⟩, ?_⟩
 · have : es.take (0 + 1) = [es[0]] := by
     cases es with
     | nil => simp at h1
     | cons e es => simp
   rw [this]; exact hb0
 · have : es.take (0 + 1) = [es[0]] := by
     cases es with
     | nil => simp at h1
     | cons e es => simp
   rw [this]; exact hS _ (List.getElem_mem _)
 rintro ⟨t, o4, o6⟩ V2 l2 ⟨i, rfl, hi, ho, hz⟩
 dsimp only at ho hz ⊢
 have hlen : ((((((s.len : Nat) : Int)).toNat - Int.toNat 1 : Nat) : Int)) = (es.length : Int) - 1 := by rw [Int.toNat_natCast, hl]; show ((es.length - 1 : Nat) : Int) = _; omega
 rw [hlen]
 refine ⟨fun hlt => ?_, fun hge => ?_⟩
 · simp only [decide_eq_true_eq] at hlt
   have hi2 : i + 1 < es.length := by omega
   have hc1 : ¬ s.cap = Int.toNat 1 := by show ¬ s.cap = 1; omega
   rw [if_neg hc1, A0t]
   obtain ⟨hb', x', ⟨b', hx', hb''⟩, _, hh', hs'⟩ := E02.get (h.le (View.le_trans l1 l2)) (t := ((i + 1 : Nat) : Int)) (by omega) (z := es[i + 1]) (by rw [Int.toNat_natCast]; simp [hi2])
   rw [Int.toNat_natCast] at hh' hs'
   have hsm : (Option.map (fun q => Addr.add q (Int.toNat 1 * 6)) s.a).isSome = true := by
    have := hb'.2.2
    rw [Option.isSome_map]; exact this
   refine ⟨⟨by omega, by omega, hsm⟩, b', hx' ▸ hh', hs', ?_⟩
   have hp : V2.load (some (Addr.mk b1 0 none)) = some (.int .i64 way) := a02 l2 (by simp [View.load, hb1])
   refine (U0p hb'' ho (hS _ (List.getElem_mem _)) hz hp).mono fun v V3 l3 hv => ⟨_, hv, fun hc => ?_, fun hc => ?_⟩
   · simp only [decide_eq_true_eq] at hc
     rw [i64w (by omega) (by omega)]
     refine ⟨⟨i + 1, by omega, by omega, ?_, ?_⟩, by omega⟩
     · rw [d0b way hi2, if_pos hc]; exact hb''.le l3
     · rw [d0b way hi2, if_pos hc]; exact hS _ (List.getElem_mem _)
   · simp only [decide_eq_false_iff_not] at hc
     rw [i64w (by omega) (by omega)]
     refine ⟨⟨i + 1, by omega, by omega, ?_, ?_⟩, by omega⟩
     · rw [d0b way hi2, if_neg hc]; exact ho.le l3
     · rw [d0b way hi2, if_neg hc]; exact hz
 · simp only [decide_eq_false_iff_not] at hge
   have : i + 1 = es.length := by omega
   rw [this, List.take_length] at ho
   exact ⟨_, rfl, ho⟩
theorem Z0b {V : View} {s : Sl} {es : List Eb} (h : t0f V s es) (h0 : es ≠ []) (hn : es.length ≤ 2 ^ 32) (hS : ∀ e ∈ es, e.num.sz ≤ 2 ^ 40) :
 a00 prog q0l #[s.v] V fun v V' => ∃ b : BdV, v = b.val ∧ BdAt V' b (Eb.pick (-1) es) :=
 U0j s V _ ((G0k h h0 hn hS).mono fun _ _ _ ⟨b, hv, hb⟩ => ⟨b, hv, b, rfl, hb⟩)
theorem Y05 {V : View} {s : Sl} {es : List Eb} (h : t0f V s es) (h0 : es ≠ []) (hn : es.length ≤ 2 ^ 32) (hS : ∀ e ∈ es, e.num.sz ≤ 2 ^ 40) :
 a00 prog H0e #[s.v] V fun v V' => ∃ b : BdV, v = b.val ∧ BdAt V' b (Eb.pick 1 es) :=
 L0d s V _ ((G0k h h0 hn hS).mono fun _ _ _ ⟨b, hv, hb⟩ => ⟨b, hv, b, rfl, hb⟩)
structure EsAt (V : View) (s : SetV) (e : Es) : Prop where
 lo : BdAt V s.lo e.lo
 hi : BdAt V s.hi e.hi
theorem EsAt.le {V V' : View} {s : SetV} {e : Es} (hle : V.le V') (h : EsAt V s e) : EsAt V' s e := ⟨h.lo.le hle, h.hi.le hle⟩
def l01 (e : Es) (S : Nat) : Prop := e.lo.num.sz ≤ S ∧ e.hi.num.sz ≤ S
theorem F08 {V : View} {s : SetV} {e : Es} (h : EsAt V s e) : a00 prog B0q #[s.val] V fun v V' => ∃ r : SetV, v = r.val ∧ EsAt V' r e.neg :=
 s0p s V _ ((T00 h.hi).mono fun _ _ l1 ⟨a, hv, ha⟩ => ⟨a, hv, (T00 (h.lo.le l1)).mono fun _ _ l2 ⟨b, hv, hb⟩ => ⟨b, hv, _, rfl, ha.le l2, hb⟩⟩)
theorem F05 {V : View} {s t : SetV} {e f : Es} (h : EsAt V s e) (k : EsAt V t f) {S : Nat} (he : l01 e S) (hf : l01 f S) (hS : S ≤ 2 ^ 30) :
 a00 prog E0q #[s.val, t.val] V fun v V' => ∃ r : SetV, v = r.val ∧ EsAt V' r (e.add f) :=
 t0p s t V _ ((G09 h.lo k.lo (by have := he.1; omega) (by have := hf.1; omega)).mono fun v V1 l1 ⟨a, hv, ha⟩ => ⟨a, hv,
  (G09 (h.hi.le l1) (k.hi.le l1) (by have := he.2; omega) (by have := hf.2; omega)).mono fun v V2 l2 ⟨b, hv, hb⟩ => ⟨b, hv, _, rfl, ha.le l2, hb⟩⟩)
theorem N0n {V : View} {b : Nat} {r1 r2 r3 r4 : BdV} {e1 e2 e3 e4 : Eb} (h1 : BdAt V r1 e1) (h2 : BdAt V r2 e2) (h3 : BdAt V r3 e3) (h4 : BdAt V r4 e4)
 (hb : V b = some #[.int .i64 r1.inf, .bool r1.x.re.neg, r1.x.re.mag.v, .bool r1.x.im.neg, r1.x.im.mag.v, r1.x.under.v, .int .i64 r2.inf, .bool r2.x.re.neg, r2.x.re.mag.v, .bool r2.x.im.neg, r2.x.im.mag.v, r2.x.under.v, .int .i64 r3.inf, .bool r3.x.re.neg, r3.x.re.mag.v, .bool r3.x.im.neg, r3.x.im.mag.v, r3.x.under.v, .int .i64 r4.inf, .bool r4.x.re.neg, r4.x.re.mag.v, .bool r4.x.im.neg, r4.x.im.mag.v, r4.x.under.v]) :
 t0f V ⟨some ⟨b, 0, none⟩, 4, 4⟩ [e1, e2, e3, e4] :=
 J09 (o := r1.val.cells.toList ++ (r2.val.cells.toList ++ (r3.val.cells.toList ++ (r4.val.cells.toList ++ [])))) hb
  ⟨_, _, rfl, rfl, ⟨r1, rfl, h1⟩, _, _, rfl, rfl, ⟨r2, rfl, h2⟩, _, _, rfl, rfl, ⟨r3, rfl, h3⟩, _, _, rfl, rfl, ⟨r4, rfl, h4⟩, rfl⟩ rfl
theorem O0n {e f : Es} {S : Nat} (he : l01 e S) (hf : l01 f S) : ∀ x ∈ Es.prods e f, x.num.sz ≤ 2 * S + 1 := by
 intro x hx
 simp only [Es.prods, List.mem_cons, List.not_mem_nil, or_false] at hx
 have a := he.1; have b := he.2; have c := hf.1; have d := hf.2
 rcases hx with rfl | rfl | rfl | rfl
 · have := b06 e.lo f.lo; omega
 · have := b06 e.lo f.hi; omega
 · have := b06 e.hi f.lo; omega
 · have := b06 e.hi f.hi; omega
theorem m0e {way : Int} {es : List Eb} {S : Nat} (h0 : es ≠ []) (h : ∀ e ∈ es, e.num.sz ≤ S) : (Eb.pick way es).num.sz ≤ S := by
 cases es with
 | nil => exact absurd rfl h0
 | cons e es =>
   show (List.foldl (fun o x => if x.cmp o = way then x else o) e es).num.sz ≤ S
   rcases Eb.pick_mem way es e with g | g
   · rw [g]; exact h e (by simp)
   · exact h _ (by simp [g])
theorem H06 {V : View} {s t : SetV} {e f : Es} (h : EsAt V s e) (k : EsAt V t f) {S : Nat} (he : l01 e S) (hf : l01 f S) (hS : S ≤ 2 ^ 30) :
 a00 prog D0q #[s.val, t.val] V fun v V' => ∃ r : SetV, v = r.val ∧ EsAt V' r (e.mul f) := by
 have a := he.1; have b := he.2; have c := hf.1; have d := hf.2
 have hp := O0n he hf
 have hp40 : ∀ x ∈ Es.prods e f, x.num.sz ≤ 2 ^ 40 := fun x hx => by have := hp x hx; omega
 refine u0p s t V _ ((l03 h.lo k.lo (by omega) (by omega)).mono fun v V1 l1 ⟨r1, hv, h1⟩ => ⟨r1, hv, ?_⟩)
 refine (l03 (h.lo.le l1) (k.hi.le l1) (by omega) (by omega)).mono fun v V2 l2 ⟨r2, hv, h2⟩ => ⟨r2, hv, ?_⟩
 have L2 := View.le_trans l1 l2
 refine (l03 (h.hi.le L2) (k.lo.le L2) (by omega) (by omega)).mono fun v V3 l3 ⟨r3, hv, h3⟩ => ⟨r3, hv, ?_⟩
 have L3 := View.le_trans L2 l3
 refine (l03 (h.hi.le L3) (k.hi.le L3) (by omega) (by omega)).mono fun v V4 l4 ⟨r4, hv, h4⟩ => ⟨r4, hv, fun b1 V5 l5 _ hb1 => ?_⟩
 have g1 := h1.le (View.le_trans l2 (View.le_trans l3 l4))
 have g2 := h2.le (View.le_trans l3 l4)
 have g3 := h3.le l4
 refine (Z0b (N0n (g1.le l5) (g2.le l5) (g3.le l5) (h4.le l5) hb1) (by simp) (by simp) hp40).mono fun v V6 l6 ⟨r5, hv, h5⟩ => ⟨r5, hv, fun b2 V7 l7 _ hb2 => ?_⟩
 have L7 := View.le_trans l5 (View.le_trans l6 l7)
 exact (Y05 (N0n (g1.le L7) (g2.le L7) (g3.le L7) (h4.le L7) hb2) (by simp) (by simp) hp40).mono fun v V8 l8 ⟨r6, hv, h6⟩ => ⟨r6, hv, _, rfl, h5.le (View.le_trans l7 l8), h6⟩
theorem e0b {V : View} {s : SetV} {e : Es} (h : EsAt V s e) {S : Nat} (he : l01 e S) (hS : S ≤ 2 ^ 30) : a00 prog E0o #[s.val] V fun v _ => v = .bool e.zero := by
 have a := he.1; have b := he.2
 refine Z0l s V _ ((z02 h.lo (by omega)).mono fun v V1 l1 hv => ⟨_, hv, fun hc => ?_, fun hc => ?_⟩)
 · refine (z02 (h.hi.le l1) (by omega)).mono fun v V2 _ hv => ⟨_, hv, ?_⟩
   unfold Es.zero; rw [hc]; rfl
 · unfold Es.zero; rw [hc]; rfl
theorem P0n : 18442240474082181120 = t01 (-(infR : Int)) := by decide
theorem a0u : infR = t01 (infR : Int) := by decide
theorem b03 {V : View} {s : SetV} {e : Es} (h : EsAt V s e) {S : Nat} (he : l01 e S) (hS : S ≤ 2 ^ 30) : a00 prog x0o #[s.val] V fun v _ => v = (Sk.v e.span).val := by
 have a := he.1; have b := he.2
 have il := h.lo.inf
 have ih := h.hi.inf
 refine a0m s V _ (x0t.mono fun v V1 l1 hv => ⟨_, hv, w0g.mono fun v V2 l2 hv => ⟨_, hv, fun h1 => ?_, fun h1 => ?_⟩⟩)
 · have h1 : e.lo.inf = 0 := by rw [← il]; simpa using h1
   refine (T0p (h.lo.num.le (View.le_trans l1 l2)) (by omega)).mono fun v V3 l3 hv => ⟨_, hv, fun h2 => ?_, fun h2 => ?_⟩
   · have h2 : e.hi.inf = 0 := by rw [← ih]; simpa using h2
     refine (B0g (h.hi.num.le (View.le_trans l1 (View.le_trans l2 l3))) (by omega)).mono fun v V4 l4 hv => ⟨_, hv, ?_⟩
     unfold Es.span Sk.v; rw [if_pos h1, if_pos h2]; rfl
   · have h2 : e.hi.inf ≠ 0 := by rw [← ih]; simpa using h2
     unfold Es.span Sk.v; rw [if_pos h1, if_neg h2, ← a0u]; rfl
 · have h1 : e.lo.inf ≠ 0 := by rw [← il]; simpa using h1
   refine ⟨fun h2 => ?_, fun h2 => ?_⟩
   · have h2 : e.hi.inf = 0 := by rw [← ih]; simpa using h2
     refine (B0g (h.hi.num.le (View.le_trans l1 l2)) (by omega)).mono fun v V4 l4 hv => ⟨_, hv, ?_⟩
     unfold Es.span Sk.v; rw [if_neg h1, if_pos h2, ← P0n]; rfl
   · have h2 : e.hi.inf ≠ 0 := by rw [← ih]; simpa using h2
     unfold Es.span Sk.v; rw [if_neg h1, if_neg h2, ← a0u, ← P0n]

theorem u0s {z : Cq} {A B : Int} {D : Nat} (h : Rep z A B D) : Rep ⟨z.re, 0⟩ A 0 D := ⟨h.pos, h.re, by simp [Rat.div_def]⟩
theorem Rep.im1 {z : Cq} {A B : Int} {D : Nat} (h : Rep z A B D) : Rep ⟨z.im, 0⟩ B 0 D := ⟨h.pos, h.im, by simp [Rat.div_def]⟩
theorem W0v (z : Cq) : (⟨z.re, 0⟩ : Cq).sz ≤ z.sz + 1 :=
 (u0s z.canon.rep).sz (by have := z.szA; omega) (by rw [Int.natAbs_zero, Y04]; omega) (by have := z.szD; omega)
theorem b0u (z : Cq) : (⟨z.im, 0⟩ : Cq).sz ≤ z.sz + 1 :=
 (Rep.im1 z.canon.rep).sz (by have := z.szB; omega) (by rw [Int.natAbs_zero, Y04]; omega) (by have := z.szD; omega)
theorem M0m {V : View} {x : NumV} {z : Cq} (h : G00 V x z) (hz : z.sz ≤ 2 ^ 40) : a00 prog H0s #[x.val] V fun v V' => ∃ r : NumV, v = r.val ∧ G00 V' r ⟨z.re, 0⟩ := by
 have zA := Cq.wA hz; have zB := Cq.wB hz; have zD := Cq.wD hz
 refine X0q x V _ ((y00 h).mono fun v V1 l1 ⟨d, hv, hd⟩ => ⟨d, hv, ?_⟩)
 exact (G01 (h.re.le l1) (W00.zero V1) hd (u0s z.canon.rep) (by omega) (by rw [Int.natAbs_zero, J04]; omega) (by omega)).mono fun v V2 _ ⟨r, hv, hr⟩ => ⟨r, hv, r, rfl, hr⟩
theorem n0e {V : View} {x : NumV} {z : Cq} (h : G00 V x z) (hz : z.sz ≤ 2 ^ 40) : a00 prog I0s #[x.val] V fun v V' => ∃ r : NumV, v = r.val ∧ G00 V' r ⟨z.im, 0⟩ := by
 have zA := Cq.wA hz; have zB := Cq.wB hz; have zD := Cq.wD hz
 refine Y0q x V _ ((y00 h).mono fun v V1 l1 ⟨d, hv, hd⟩ => ⟨d, hv, ?_⟩)
 exact (G01 (h.im.le l1) (W00.zero V1) hd (Rep.im1 z.canon.rep) (by omega) (by rw [Int.natAbs_zero, J04]; omega) (by omega)).mono fun v V2 _ ⟨r, hv, hr⟩ => ⟨r, hv, r, rfl, hr⟩
theorem A_zero {z : Cq} : z.A = 0 ↔ z.re = 0 := by
 have h := z.canon.rep
 have hD := Y00 h.pos
 rw [h.re]
 constructor
 · intro e; rw [e]; simp [Rat.div_def]
 · intro e
   have : (z.A : Rat) = 0 := by
    have : (z.A : Rat) = (z.A : Rat) / (z.D : Rat) * (z.D : Rat) := by rw [Rat.div_mul_cancel hD]
    rw [this, e]; simp
   exact_mod_cast this
theorem B_zero {z : Cq} : z.B = 0 ↔ z.im = 0 := by
 have h := z.canon.rep
 have hD := Y00 h.pos
 rw [h.im]
 constructor
 · intro e; rw [e]; simp [Rat.div_def]
 · intro e
   have : (z.B : Rat) = 0 := by
    have : (z.B : Rat) = (z.B : Rat) / (z.D : Rat) * (z.D : Rat) := by rw [Rat.div_mul_cancel hD]
    rw [this, e]; simp
   exact_mod_cast this
theorem u0f {V : View} {x : NumV} {z : Cq} (h : G00 V x z) (hz : z.sz ≤ 2 ^ 40) : a00 prog x0l #[x.val] V fun v _ => v = .bool (decide (z ≠ Cq.zero)) := by
 have zA := Cq.wA hz; have zB := Cq.wB hz
 refine Z0j x V _ ?_
 have a1 := h.re.2.len; have a2 := h.im.2.len
 have b1 := h.re.2.len_zero; have b2 := h.im.2.len_zero
 have c1 : x.re.mag.len ≤ 2 ^ 50 := by
  have : x.re.mag.len = wn z.A.natAbs := by rw [wn]; exact a1.symm ▸ rfl
  omega
 have c2 : x.im.mag.len ≤ 2 ^ 50 := by
  have : x.im.mag.len = wn z.B.natAbs := by rw [wn]; exact a2.symm ▸ rfl
  omega
 rw [i64w (by omega) (by omega)]
 have d1 : x.re.mag.len = 0 ↔ z.re = 0 := by rw [b1, ← A_zero]; omega
 have d2 : x.im.mag.len = 0 ↔ z.im = 0 := by rw [b2, ← B_zero]; omega
 have e : (z ≠ Cq.zero) ↔ ((x.re.mag.len : Int) + (x.im.mag.len : Int) > 0) := by
  constructor
  · intro hne
    rcases Nat.eq_zero_or_pos x.re.mag.len with p | p
    · rcases Nat.eq_zero_or_pos x.im.mag.len with q | q
      · exact absurd (Cq.ext' (d1.1 p) (d2.1 q)) hne
      · omega
    · omega
  · rintro hp rfl
    have p := d1.2 rfl; have q := d2.2 rfl
    omega
 simp only [e]
theorem Rep.div {z w : Cq} {A B a b : Int} {D d n : Nat} (hw : Rep w A B D) (ht : Rep (z * ⟨(A : Rat), -(B : Rat)⟩) a b d) (hn : (n : Int) = A * A + B * B) (h0 : n ≠ 0) : Rep (z.div w) (a * D) (b * D) (d * n) := by
 have hD := Y00 hw.pos
 have hd := Y00 ht.pos
 have hn0 := Y00 h0
 have hN : (n : Rat) = (A : Rat) * A + B * B := by exact_mod_cast hn
 have t1 := ht.re; have t2 := ht.im
 rw [g03] at t1; rw [E03] at t2
 dsimp only at t1 t2
 refine ⟨Nat.mul_ne_zero ht.pos h0, ?_, ?_⟩
 · show (z.re * w.re + z.im * w.im) / (w.re * w.re + w.im * w.im) = _
   rw [hw.re, hw.im, Rat.intCast_mul, Rat.natCast_mul, Rat.intCast_natCast]
   have e1 : z.re * ((A : Rat) / (D : Rat)) + z.im * ((B : Rat) / (D : Rat)) = (a : Rat) / (d : Rat) / (D : Rat) := by rw [← t1]; grind
   have e2 : (A : Rat) / (D : Rat) * ((A : Rat) / (D : Rat)) + (B : Rat) / (D : Rat) * ((B : Rat) / (D : Rat)) = (n : Rat) / ((D : Rat) * (D : Rat)) := by rw [hN]; grind
   rw [e1, e2]; grind
 · show (z.im * w.re - z.re * w.im) / (w.re * w.re + w.im * w.im) = _
   rw [hw.re, hw.im, Rat.intCast_mul, Rat.natCast_mul, Rat.intCast_natCast]
   have e1 : z.im * ((A : Rat) / (D : Rat)) - z.re * ((B : Rat) / (D : Rat)) = (b : Rat) / (d : Rat) / (D : Rat) := by rw [← t2]; grind
   have e2 : (A : Rat) / (D : Rat) * ((A : Rat) / (D : Rat)) + (B : Rat) / (D : Rat) * ((B : Rat) / (D : Rat)) = (n : Rat) / ((D : Rat) * (D : Rat)) := by rw [hN]; grind
   rw [e1, e2]; grind
theorem d0c (A B : Int) : Rep ⟨(A : Rat), -(B : Rat)⟩ A (-B) 1 := by
 refine ⟨by omega, ?_, ?_⟩
 · rw [Rat.div_def]; simp; grind
 · rw [Rat.div_def]; simp; grind
theorem G08 {V : View} {x y : NumV} {z w : Cq} (hx : G00 V x z) (hy : G00 V y w) (hz : z.sz ≤ 2 ^ 36) (hw : w.sz ≤ 2 ^ 36) :
 a00 prog A0q #[x.val, y.val] V fun v V' => ∃ (r : NumV) (e : Int), v = .tuple #[r.val, .int .i64 e] ∧ (w = Cq.zero → e = 3 ∧ G00 V' r Cq.zero) ∧ (w ≠ Cq.zero → e = 0 ∧ G00 V' r (z.div w)) := by
 have hw40 : w.sz ≤ 2 ^ 40 := by omega
 have wA := Cq.wA hw40; have wB := Cq.wB hw40; have wD := Cq.wD hw40
 have sA := w.szA; have sB := w.szB; have sD := w.szD
 refine w0p x y V _ ((u0f hy hw40).mono fun v V1 l1 hv => ⟨_, hv, fun hc => ?_, fun hc => ?_⟩)
 · have hc : w = Cq.zero := by simpa using hc
   exact ⟨_, _, rfl, fun _ => ⟨rfl, G00.zero V1⟩, fun h => absurd hc h⟩
 have hc : w ≠ Cq.zero := by simpa using hc
 replace hx := hx.le l1; replace hy := hy.le l1
 have m1 := O01 wA wA; have m2 := O01 wB wB
 refine (f01 hy.re hy.re (by omega) (by omega)).mono fun v V2 l2 ⟨r2, hv, h2⟩ => ⟨r2, hv, ?_⟩
 replace hx := hx.le l2; replace hy := hy.le l2
 refine (f01 hy.im hy.im (by omega) (by omega)).mono fun v V3 l3 ⟨r3, hv, h3⟩ => ⟨r3, hv, ?_⟩
 replace hx := hx.le l3; replace hy := hy.le l3; replace h2 := h2.le l3
 refine (F01 h2 h3 (by omega) (by omega)).mono fun v V4 l4 ⟨r4, hv, h4⟩ => ⟨r4, hv, ?_⟩
 replace hx := hx.le l4; replace hy := hy.le l4
 refine (M01 hy.im).mono fun v V5 l5 ⟨r5, hv, h5⟩ => ⟨r5, hv, fun b1 V6 l6 _ hb1 => ?_⟩
 replace hx := hx.le (View.le_trans l5 l6); replace hy := hy.le (View.le_trans l5 l6); replace h4 := h4.le (View.le_trans l5 l6); replace h5 := h5.le l6
 refine (G01 hy.re h5 (z0g hb1) (d0c w.A w.B) (by omega) (by rw [Int.natAbs_neg]; omega) a0s).mono fun v V7 l7 ⟨r6, hv, h6⟩ => ⟨r6, hv, ?_⟩
 replace hx := hx.le l7; replace hy := hy.le l7; replace h4 := h4.le l7
 have cs : (⟨(w.A : Rat), -(w.B : Rat)⟩ : Cq).sz ≤ 2 ^ 36 + 1 := (d0c w.A w.B).sz (by omega) (by rw [Int.natAbs_neg]; omega) (by rw [k0n]; omega)
 refine (z01 hx h6 (by omega) (by omega)).mono fun v V8 l8 ⟨r7, hv, h7⟩ => ⟨r7, hv, ?_⟩
 replace hy := hy.le l8; replace h4 := h4.le l8
 have ts := m02 z ⟨(w.A : Rat), -(w.B : Rat)⟩
 have ts40 : (z * ⟨(w.A : Rat), -(w.B : Rat)⟩).sz ≤ 2 ^ 40 := by omega
 have tA := Cq.wA ts40; have tB := Cq.wB ts40; have tD := Cq.wD ts40
 refine (y00 hy).mono fun v V9 l9 ⟨r8, hv, h8⟩ => ⟨r8, hv, ?_⟩
 replace hy := hy.le l9; replace h4 := h4.le l9; replace h7 := h7.le l9
 refine (S00 h7.re h8 (by omega) (by omega)).mono fun v V10 l10 ⟨r9, hv, h9⟩ => ⟨r9, hv, ?_⟩
 replace hy := hy.le l10; replace h4 := h4.le l10; replace h7 := h7.le l10
 refine (y00 hy).mono fun v V11 l11 ⟨r10, hv, h10⟩ => ⟨r10, hv, ?_⟩
 replace h4 := h4.le l11; replace h7 := h7.le l11; replace h9 := h9.le l11
 refine (S00 h7.im h10 (by omega) (by omega)).mono fun v V12 l12 ⟨r11, hv, h11⟩ => ⟨r11, hv, ?_⟩
 replace h4 := h4.le l12; replace h7 := h7.le l12; replace h9 := h9.le l12
 refine (y00 h7).mono fun v V13 l13 ⟨r12, hv, h12⟩ => ⟨r12, hv, ?_⟩
 replace h4 := h4.le l13; replace h9 := h9.le l13; replace h11 := h11.le l13
 have n1 := O06 m1 m2
 refine (B03 h12 h4.2 (by omega) (by omega)).mono fun v V14 l14 ⟨r13, hv, h13⟩ => ⟨r13, hv, ?_⟩
 replace h9 := h9.le l14; replace h11 := h11.le l14
 have p1 := C05 (z * ⟨(w.A : Rat), -(w.B : Rat)⟩).D (w.A * w.A + w.B * w.B).natAbs
 have q1 := O01 tA (b := (w.D : Int)) (by rw [Int.natAbs_natCast]; exact wD)
 have q2 := O01 tB (b := (w.D : Int)) (by rw [Int.natAbs_natCast]; exact wD)
 have hsq : (0 : Int) ≤ w.A * w.A + w.B * w.B := Int.add_nonneg (by rw [← Int.natAbs_mul_self]; exact Int.natCast_nonneg _) (by rw [← Int.natAbs_mul_self]; exact Int.natCast_nonneg _)
 refine (G01 h9 h11 h13 (Rep.div w.canon.rep (z * ⟨(w.A : Rat), -(w.B : Rat)⟩).canon.rep (Int.natAbs_of_nonneg hsq) ?_) (by omega) (by omega) (by omega)).mono fun v V15 _ ⟨r, hv, hr⟩ => ⟨r, hv, r, _, rfl, fun h => absurd h hc, fun _ => ⟨rfl, hr⟩⟩
 intro h0
 have e0 : w.A * w.A + w.B * w.B = 0 := Int.natAbs_eq_zero.1 h0
 have a0 : w.A = 0 := by
  by_cases h : w.A = 0
  · exact h
  · have : 0 < w.A * w.A := by
      have : 0 < w.A.natAbs * w.A.natAbs := Nat.mul_pos (by omega) (by omega)
      rw [← Int.natAbs_mul_self]; exact_mod_cast this
    have : (0 : Int) ≤ w.B * w.B := by rw [← Int.natAbs_mul_self]; exact Int.natCast_nonneg _
    omega
 have b0 : w.B = 0 := by
  rw [a0] at e0
  have : w.B * w.B = 0 := by omega
  rcases Int.mul_eq_zero.1 this with h | h <;> exact h
 exact hc (Cq.ext' (A_zero.1 a0) (B_zero.1 b0))
theorem f0s {z w : Cq} {S : Nat} (hz : z.sz ≤ S) (hw : w.sz ≤ S) : (z.div w).sz ≤ 4 * S + 8 := by
 have sA := w.szA; have sB := w.szB; have sD := w.szD
 have cs : (⟨(w.A : Rat), -(w.B : Rat)⟩ : Cq).sz ≤ S + 1 := (d0c w.A w.B).sz (by omega) (by rw [Int.natAbs_neg]; omega) (by rw [k0n]; omega)
 have ts := m02 z ⟨(w.A : Rat), -(w.B : Rat)⟩
 have tA := (z * ⟨(w.A : Rat), -(w.B : Rat)⟩ : Cq).szA; have tB := (z * ⟨(w.A : Rat), -(w.B : Rat)⟩ : Cq).szB; have tD := (z * ⟨(w.A : Rat), -(w.B : Rat)⟩ : Cq).szD
 have hsq : (0 : Int) ≤ w.A * w.A + w.B * w.B := Int.add_nonneg (by rw [← Int.natAbs_mul_self]; exact Int.natCast_nonneg _) (by rw [← Int.natAbs_mul_self]; exact Int.natCast_nonneg _)
 by_cases h0 : (w.A * w.A + w.B * w.B).natAbs = 0
 · have : z.div w = Cq.zero := by
     have hr := w.canon.rep
     have e0 : w.A * w.A + w.B * w.B = 0 := Int.natAbs_eq_zero.1 h0
     have hn : w.norm = 0 := by
      unfold Cq.norm
      rw [hr.re, hr.im]
      have : (w.A : Rat) * w.A + w.B * w.B = 0 := by exact_mod_cast e0
      have hD := Y00 hr.pos
      grind
     refine Cq.ext' ?_ ?_
     · show _ / w.norm = 0; rw [hn]; simp [Rat.div_def]
     · show _ / w.norm = 0; rw [hn]; simp [Rat.div_def]
   rw [this]; have := M03; omega
 · refine (Rep.div w.canon.rep (z * ⟨(w.A : Rat), -(w.B : Rat)⟩).canon.rep (Int.natAbs_of_nonneg hsq) h0).sz ?_ ?_ ?_
   · have := P03 (z * ⟨(w.A : Rat), -(w.B : Rat)⟩).A (w.D : Int); rw [Int.natAbs_natCast] at this; omega
   · have := P03 (z * ⟨(w.A : Rat), -(w.B : Rat)⟩).B (w.D : Int); rw [Int.natAbs_natCast] at this; omega
   · have h1 := k08 (z * ⟨(w.A : Rat), -(w.B : Rat)⟩).D (w.A * w.A + w.B * w.B).natAbs
     have h2 := l08 (a := w.A * w.A) (b := w.B * w.B) (k := 2 * S) (Nat.le_trans (P03 _ _) (by omega)) (Nat.le_trans (P03 _ _) (by omega))
     omega

theorem c06 {V : View} {x : Nat} (h : okW x) : a00 prog O09 #[.float .f64 x] V fun v _ => v = .float .f64 (t01 (key x)) := by
 have z0 : okW 0 := ⟨by decide, by decide⟩
 have k0 : key 0 = 0 := by decide
 refine L0j x V _ ⟨fun hc => ?_, fun hc => ?_⟩
 · rw [N0a h z0, k0] at hc
   have hc : key x = 0 := by simpa using hc
   rw [hc]; rfl
 · rw [N0a h z0, k0] at hc
   have hc : ¬ key x = 0 := by simpa using hc
   have : t01 (key x) = x := m0k h.1 (by rintro rfl; exact hc (by decide))
   rw [this]
theorem L07 {V : View} {x y : Nat} (hx : x < 2 ^ 64) (hy : y < 2 ^ 64) : a00 prog I0e #[.float .f64 x, .float .f64 y] V fun v _ => v = .tuple #[(mkS x y).v.val, .int .i64 (mkE x y)] := by
 have bad : ∀ {e : Int}, mkE x y = e → e ≠ 0 → (Value.tuple #[(SpV.mk 0 0).val, .int .i64 e]) = .tuple #[(mkS x y).v.val, .int .i64 (mkE x y)] := by
  intro e he h0
  unfold mkS; rw [he, if_neg h0, U0n]
 refine J0d x y V _ ((A04 hx).mono fun v V1 _ hv => ⟨_, hv, fun hc => ?_, fun hc => ?_⟩)
 · have hc : ¬ okW x := by simpa using hc
   exact bad (by unfold mkE; rw [if_pos (.inl hc)]) (by decide)
 have h1 : okW x := by simpa using hc
 refine (A04 hy).mono fun v V2 _ hv => ⟨_, hv, fun hc => ?_, fun hc => ?_⟩
 · have hc : ¬ okW y := by simpa using hc
   exact bad (by unfold mkE; rw [if_pos (.inr (.inl hc))]) (by decide)
 have h2 : okW y := by simpa using hc
 refine (n0i hx).mono fun v V3 _ hv => ⟨_, hv, fun hc => ?_, fun hc => ?_⟩
 · have hc : key x = (infR : Int) := by simp only [decide_eq_true_eq] at hc; exact hc.2
   exact bad (by unfold mkE; rw [if_pos (.inr (.inr (.inl hc)))]) (by decide)
 have h3 : ¬ key x = (infR : Int) := by simp only [decide_eq_false_iff_not] at hc; exact fun e => hc ⟨h1, e⟩
 refine (W0b hy).mono fun v V4 _ hv => ⟨_, hv, fun hc => ?_, fun hc => ?_⟩
 · have hc : key y = -(infR : Int) := by simp only [decide_eq_true_eq] at hc; exact hc.2
   exact bad (by unfold mkE; rw [if_pos (.inr (.inr (.inr hc)))]) (by decide)
 have h4 : ¬ key y = -(infR : Int) := by simp only [decide_eq_false_iff_not] at hc; exact fun e => hc ⟨h2, e⟩
 have hno : ¬ (¬ okW x ∨ ¬ okW y ∨ key x = (infR : Int) ∨ key y = -(infR : Int)) := by
  rintro (h | h | h | h)
  · exact h h1
  · exact h h2
  · exact h3 h
  · exact h4 h
 refine ⟨fun hc => ?_, fun hc => ?_⟩
 · rw [M0a h1 h2] at hc
   have hc : key y < key x := by simpa using hc
   exact bad (by unfold mkE; rw [if_neg hno, if_pos hc]) (by decide)
 · rw [M0a h1 h2] at hc
   have hc : ¬ key y < key x := by simpa using hc
   have he : mkE x y = 0 := by unfold mkE; rw [if_neg hno, if_neg hc]
   refine (c06 h1).mono fun v V5 _ hv => ⟨_, hv, (c06 h2).mono fun v V6 _ hv => ⟨_, hv, ?_⟩⟩
   unfold mkS; rw [he, if_pos rfl]; rfl
theorem a0c {V : View} {s : Sk} (h : s.ok) : a00 prog n0l #[s.v.val] V fun v _ => v = s.neg.v.val := by
 have a := E06 (okK h.hi); have b := E06 (okK h.lo)
 refine M0j s.v V _ ((c06 a.1).mono fun v V1 _ hv => ⟨_, hv, (c06 b.1).mono fun v V2 _ hv => ⟨_, hv, ?_⟩⟩)
 rw [a.2, b.2, keyK h.hi, keyK h.lo]; rfl
theorem c03 {V : View} {s : Sk} (h : s.ok) : a00 prog w0o #[s.v.val] V fun v V' => ∃ r : SetV, v = r.val ∧ EsAt V' r s.set := by
 refine S0l s.v V _ ((M0n (okK h.lo)).mono fun v V1 _ ⟨a, hv, ha⟩ => ⟨a, hv, (M0n (okK h.hi)).mono fun v V2 l2 ⟨b, hv, hb⟩ => ⟨b, hv, _, rfl, ?_, ?_⟩⟩)
 · rw [keyK h.lo] at ha; exact ha.le l2
 · rw [keyK h.hi] at hb; exact hb
theorem C02 {s : Sk} (h : s.ok) : l01 s.set 2100 := ⟨Z09 h.lo, Z09 h.hi⟩
theorem s0i {V : View} {s : Sk} (h : s.ok) {x : NumV} {z : Cq} (hx : G00 V x z) (hz : z.sz ≤ 2 ^ 40) : a00 prog N0f #[s.v.val, x.val] V fun v _ => v = .bool (decide (z.im = 0) && s.has z.re) := by
 refine T0l s.v x V _ ((c03 h).mono fun v V1 l1 ⟨r, hv, hr⟩ => ⟨r, hv, (X0a (hx.le l1)).mono fun v V2 l2 hv => ⟨_, hv, fun hc => ?_, fun hc => ?_⟩⟩)
 · have hc : z.im = 0 := by simpa using hc
   have e : z = (⟨0, z.re⟩ : Eb).num := Cq.ext' rfl hc
   have hb : BdAt V2 (BdV.mk 0 x) ⟨0, z.re⟩ := ⟨rfl, by rw [← e]; exact hx.le (View.le_trans l1 l2), .inl rfl⟩
   have hzz : (⟨0, z.re⟩ : Eb).num.sz ≤ 2 ^ 40 := by rw [← e]; exact hz
   have s1 : (endE s.lo).num.sz ≤ 2 ^ 40 := Nat.le_trans (Z09 h.lo) (by omega)
   have s2 : (endE s.hi).num.sz ≤ 2 ^ 40 := Nat.le_trans (Z09 h.hi) (by omega)
   refine (k03 (hr.lo.le l2) hb s1 hzz).mono fun v V3 l3 hv => ⟨_, hv, fun hd => ?_, fun hd => ?_⟩
   · refine (k03 (hb.le l3) (hr.hi.le (View.le_trans l2 l3)) hzz s2).mono fun v V4 _ hv => ⟨_, hv, ?_⟩
     have hd : s.set.lo.cmp ⟨0, z.re⟩ ≤ 0 := by simpa using hd
     have hd : (endE s.lo).cmp ⟨0, z.re⟩ ≤ 0 := hd
     show Value.bool _ = _
     unfold Sk.has; rw [hc, decide_eq_true hd]; simp; rfl
   · have hd : ¬ s.set.lo.cmp ⟨0, z.re⟩ ≤ 0 := by simpa using hd
     have hd : ¬ (endE s.lo).cmp ⟨0, z.re⟩ ≤ 0 := hd
     unfold Sk.has; rw [decide_eq_false hd]; simp
 · have hc : ¬ z.im = 0 := by simpa using hc
   simp [hc]
theorem g0s {V : View} {c d : CxV} (h1 : c.re < 2 ^ 64) (h2 : c.im < 2 ^ 64) (h3 : d.re < 2 ^ 64) (h4 : d.im < 2 ^ 64) : a00 prog t0o #[.complex .f64 c.re c.im, .complex .f64 d.re d.im] V fun v _ => v = .tuple #[(mkB c.re c.im d.re d.im).v.val, .int .i64 (mkBE c.re c.im d.re d.im)] := by
 refine U0l c d V _ ((L07 h1 h3).mono fun v V1 _ hv => ⟨_, _, hv, (L07 h2 h4).mono fun v V2 _ hv => ⟨_, _, hv, fun hc => ?_, fun hc => ?_⟩⟩)
 · have hc : mkE c.re d.re = 1 := by simpa using hc
   have e : mkBE c.re c.im d.re d.im = 1 := by unfold mkBE; rw [if_pos (.inl hc)]
   unfold mkB; rw [e]; rfl
 have c1 : ¬ mkE c.re d.re = 1 := by simpa using hc
 refine ⟨fun hc => ?_, fun hc => ?_⟩
 · have hc : mkE c.im d.im = 1 := by simpa using hc
   have e : mkBE c.re c.im d.re d.im = 1 := by unfold mkBE; rw [if_pos (.inr hc)]
   unfold mkB; rw [e]; rfl
 have c2 : ¬ mkE c.im d.im = 1 := by simpa using hc
 have hno : ¬ (mkE c.re d.re = 1 ∨ mkE c.im d.im = 1) := by rintro (h | h); exact c1 h; exact c2 h
 refine ⟨fun hc => ?_, fun hc => ?_⟩
 · have hc : mkE c.re d.re ≠ 0 := by simpa using hc
   have e : mkBE c.re c.im d.re d.im = 7 := by unfold mkBE; rw [if_neg hno, if_pos (.inl hc)]
   unfold mkB; rw [e]; rfl
 have c3 : ¬ mkE c.re d.re ≠ 0 := by simpa using hc
 refine ⟨fun hc => ?_, fun hc => ?_⟩
 · have hc : mkE c.im d.im ≠ 0 := by simpa using hc
   have e : mkBE c.re c.im d.re d.im = 7 := by unfold mkBE; rw [if_neg hno, if_pos (.inr hc)]
   unfold mkB; rw [e]; rfl
 have c4 : ¬ mkE c.im d.im ≠ 0 := by simpa using hc
 have e : mkBE c.re c.im d.re d.im = 0 := by unfold mkBE; rw [if_neg hno, if_neg]; rintro (h | h); exact c3 h; exact c4 h
 unfold mkB; rw [e]; rfl
theorem i0s {V : View} (s t : SpV) : a00 prog u0o #[s.val, t.val] V fun v _ => v = (BoxV.mk s t).val := W0l s t V _ rfl
theorem j0s {V : View} (b : BoxV) : a00 prog F0s #[b.val] V fun v _ => v = .complex .f64 b.re.lo b.im.lo := U0q b V _ rfl
theorem k0s {V : View} (b : BoxV) : a00 prog G0s #[b.val] V fun v _ => v = .complex .f64 b.re.hi b.im.hi := W0q b V _ rfl
theorem I06 {V : View} {b : Bk} (h : b.ok) {x : NumV} {z : Cq} (hx : G00 V x z) (hz : z.sz ≤ 2 ^ 39) : a00 prog S03 #[b.v.val, x.val] V fun v _ => v = .bool (b.has z) := by
 have hz1 := W0v z; have hz2 := b0u z
 refine n0p b.v x V _ ((M0m hx (by omega)).mono fun v V1 l1 ⟨r, hv, hr⟩ => ⟨r, hv, ?_⟩)
 refine (s0i h.re hr (by omega)).mono fun v V2 l2 hv => ⟨_, hv, fun hc => ?_, fun hc => ?_⟩
 · have hc : b.re.has z.re = true := by simpa using hc
   refine (n0e (hx.le (View.le_trans l1 l2)) (by omega)).mono fun v V3 l3 ⟨r, hv, hr⟩ => ⟨r, hv, ?_⟩
   refine (s0i h.im hr (by omega)).mono fun v V4 l4 hv => ⟨_, hv, ?_⟩
   unfold Bk.has; rw [hc]; simp
 · have hc : b.re.has z.re = false := by simpa using hc
   unfold Bk.has; rw [hc]; simp
theorem P06 {V : View} {b : Bk} (h : b.ok) : a00 prog m0l #[b.v.val] V fun v _ => v = .bool (!b.has Cq.zero) :=
 N0j b.v V _ ((I06 h (G00.zero V) (Nat.le_trans M03 (by omega))).mono fun v V1 _ hv => ⟨_, hv, rfl⟩)
theorem f0b {e f : Es} {S : Nat} (he : l01 e S) (hf : l01 f S) : l01 (e.add f) (2 * S + 1) := by
 have a := he.1; have b := he.2; have c := hf.1; have d := hf.2
 have h1 := C0g e.lo f.lo; have h2 := C0g e.hi f.hi
 exact ⟨show (e.lo.add f.lo).num.sz ≤ _ by omega, show (e.hi.add f.hi).num.sz ≤ _ by omega⟩
theorem g0b {e : Es} {S : Nat} (he : l01 e S) : l01 e.neg S := by
 refine ⟨?_, ?_⟩
 · show e.hi.neg.num.sz ≤ S; rw [a06]; exact he.2
 · show e.lo.neg.num.sz ≤ S; rw [a06]; exact he.1
theorem J06 {e f : Es} {S : Nat} (he : l01 e S) (hf : l01 f S) : l01 (e.mul f) (2 * S + 1) := by
 have hp := O0n he hf
 exact ⟨m0e (by unfold Es.prods; simp) hp, m0e (by unfold Es.prods; simp) hp⟩
theorem H08 {V : View} {b c : Bk} (h : b.ok) (k : c.ok) : a00 prog m0j #[b.v.val, c.v.val] V fun v _ => v = (b.mul c).v.val := by
 have s1 := C02 h.re; have s2 := C02 h.im; have s3 := C02 k.re; have s4 := C02 k.im
 refine o0p b.v c.v V _ ((c03 h.re).mono fun v V1 l1 ⟨p, hv, hp⟩ => ⟨p, hv, ?_⟩)
 refine (c03 h.im).mono fun v V2 l2 ⟨q, hv, hq⟩ => ⟨q, hv, ?_⟩
 refine (c03 k.re).mono fun v V3 l3 ⟨r, hv, hr⟩ => ⟨r, hv, ?_⟩
 refine (c03 k.im).mono fun v V4 l4 ⟨s, hv, hs⟩ => ⟨s, hv, ?_⟩
 replace hp := hp.le (View.le_trans l2 (View.le_trans l3 l4)); replace hq := hq.le (View.le_trans l3 l4); replace hr := hr.le l4
 refine (H06 hp hr s1 s3 (by omega)).mono fun v V5 l5 ⟨x5, hv, h5⟩ => ⟨x5, hv, ?_⟩
 replace hp := hp.le l5; replace hq := hq.le l5; replace hr := hr.le l5; replace hs := hs.le l5
 refine (H06 hq hs s2 s4 (by omega)).mono fun v V6 l6 ⟨x6, hv, h6⟩ => ⟨x6, hv, ?_⟩
 replace hp := hp.le l6; replace hq := hq.le l6; replace hr := hr.le l6; replace hs := hs.le l6; replace h5 := h5.le l6
 refine (F08 h6).mono fun v V7 l7 ⟨x7, hv, h7⟩ => ⟨x7, hv, ?_⟩
 replace hp := hp.le l7; replace hq := hq.le l7; replace hr := hr.le l7; replace hs := hs.le l7; replace h5 := h5.le l7
 refine (F05 h5 h7 (J06 s1 s3) (g0b (J06 s2 s4)) (by omega)).mono fun v V8 l8 ⟨x8, hv, h8⟩ => ⟨x8, hv, ?_⟩
 replace hp := hp.le l8; replace hq := hq.le l8; replace hr := hr.le l8; replace hs := hs.le l8
 refine (b03 h8 (f0b (J06 s1 s3) (g0b (J06 s2 s4))) (by omega)).mono fun v V9 l9 hv => ⟨_, hv, ?_⟩
 replace hp := hp.le l9; replace hq := hq.le l9; replace hr := hr.le l9; replace hs := hs.le l9
 refine (H06 hp hs s1 s4 (by omega)).mono fun v V10 l10 ⟨x10, hv, h10⟩ => ⟨x10, hv, ?_⟩
 replace hq := hq.le l10; replace hr := hr.le l10
 refine (H06 hq hr s2 s3 (by omega)).mono fun v V11 l11 ⟨x11, hv, h11⟩ => ⟨x11, hv, ?_⟩
 refine (F05 (h10.le l11) h11 (J06 s1 s4) (J06 s2 s3) (by omega)).mono fun v V12 l12 ⟨x12, hv, h12⟩ => ⟨x12, hv, ?_⟩
 exact (b03 h12 (f0b (J06 s1 s4) (J06 s2 s3)) (by omega)).mono fun v V13 _ hv => ⟨_, hv, rfl⟩
theorem Bk.mul_ok (b c : Bk) : (b.mul c).ok := ⟨W02 _, W02 _⟩
theorem H0k {V : View} {b : Bk} (h : b.ok) : a00 prog l0j #[b.v.val] V fun v _ => v = b.neg.v.val :=
 p0p b.v V _ ((a0c h.re).mono fun _ _ _ hv => ⟨_, hv, (a0c h.im).mono fun _ _ _ hv => ⟨_, hv, rfl⟩⟩)
theorem t0i {V : View} {b : Bk} (h : b.ok) : a00 prog M0f #[b.v.val] V fun v _ => v = b.conj.v.val :=
 X0l b.v V _ ((a0c h.im).mono fun _ _ _ hv => ⟨_, hv, rfl⟩)

def o07 (V : View) (n cap : Nat) (o : List Value) (es : List Eb) : Prop := ∃ l, K05 6 n cap o l ∧ H02 6 bdC V l es ∧ n = es.length
theorem o07.le {V V' : View} (hle : V.le V') {n cap : Nat} {o : List Value} {es : List Eb} (h : o07 V n cap o es) : o07 V' n cap o es := by
 obtain ⟨l, h1, h2, h3⟩ := h; exact ⟨l, h1, h2.imp (bdC.le hle), h3⟩
theorem D0g (r : BdV) : ∀ v ∈ [Value.int .i64 r.inf, .bool r.x.re.neg, r.x.re.mag.v, .bool r.x.im.neg, r.x.im.mag.v, r.x.under.v], Value.oneCell' v = true := by
 intro v hv
 simp only [List.mem_cons, List.not_mem_nil, or_false] at hv
 rcases hv with rfl | rfl | rfl | rfl | rfl | rfl <;> rfl
theorem l0s {V : View} {b : Nat} {l : List Value} (h : V b = some l.toArray) : V.has (some (Addr.mk b 0 none)) l := by
 intro j v hj
 rw [M0b h]
 simpa using hj
theorem o07.push {V1 : View} {n cap : Nat} {o : List Value} {es : List Eb} {r : BdV} {e : Eb} {b : Nat} {R : Nat → Nat → List Value → View → Prop} (h : o07 V1 n cap o es) (hr : BdAt V1 r e) (hl : es.length ≤ 2 ^ 20)
 (hb : V1 b = some #[.int .i64 r.inf, .bool r.x.re.neg, r.x.re.mag.v, .bool r.x.im.neg, r.x.im.mag.v, r.x.under.v]) (hR : ∀ c l3, o07 V1 (n + 1) c l3 (es ++ [e]) → R (n + 1) c l3 V1) :
 ∃ (l1 l2 : List Value), K05 6 n cap o l1 ∧ View.has V1 (some (Addr.mk b 0 none)) l2 ∧ List.length l2 = 1 * 6 ∧ (∀ v ∈ l2, Value.oneCell' v = true) ∧ n + 1 ≤ maxLen ∧ (n + 1) * 96 ≤ 140737488355328 ∧
  ∀ (c1 : Nat) (l3 : List Value), K05 6 (n + 1) c1 l3 (l1 ++ l2) → R (n + 1) c1 l3 V1 := by
 obtain ⟨l, h1, h2, h3⟩ := h
 refine ⟨l, _, h1, l0s (l := [.int .i64 r.inf, .bool r.x.re.neg, r.x.re.mag.v, .bool r.x.im.neg, r.x.im.mag.v, r.x.under.v]) hb, rfl, D0g r, Nat.le_trans (show n + 1 ≤ 2 ^ 20 + 1 by omega) (by decide), by omega, fun c1 l3 hl3 => hR _ _ ⟨_, hl3, ?_, by simp; omega⟩⟩
 exact H02.append h2 (H02.one rfl ⟨r, rfl, hr⟩)
theorem I0k (a b : Rat) : (⟨a, 0⟩ : Cq).div (⟨a, 0⟩ * ⟨a, 0⟩ + ⟨b, 0⟩ * ⟨b, 0⟩) = ⟨a / (a * a + b * b), 0⟩ := by
 rw [m09, m09, c0c]
 refine Cq.ext' ?_ ?_
 · show (a * (a * a + b * b) + 0 * 0) / ((a * a + b * b) * (a * a + b * b) + 0 * 0) = a / (a * a + b * b)
   by_cases h : a * a + b * b = 0
   · rw [h]; simp [Rat.div_def]; try grind
   · grind
 · show (0 * (a * a + b * b) - a * 0) / ((a * a + b * b) * (a * a + b * b) + 0 * 0) = 0
   have e : 0 * (a * a + b * b) - a * 0 = (0 : Rat) := by grind
   rw [e, Rat.div_def]; grind
theorem m0s {a b : Eb} {S : Nat} (ha : a.num.sz ≤ S) (hb : b.num.sz ≤ S) : (X00 a b).num.sz ≤ 32 * S + 40 := by
 unfold X00; split
 · have := M03; show Cq.zero.sz ≤ _; omega
 · show (⟨a.x / (a.x * a.x + b.x * b.x), 0⟩ : Cq).sz ≤ _
   rw [← I0k]
   have h1 := m02 a.num a.num; have h2 := m02 b.num b.num; have h3 := j04 (a.num * a.num) (b.num * b.num)
   have h4 := f0s (z := a.num) (w := a.num * a.num + b.num * b.num) (S := 4 * S + 4) (by omega) (by omega)
   exact Nat.le_trans h4 (by omega)
theorem I08 {V : View} {a b : BdV} {e f : Eb} {n cap : Nat} {o : List Value} {es : List Eb} (ha : BdAt V a e) (hb : BdAt V b f) (he : e.num.sz ≤ 2 ^ 30) (hf : f.num.sz ≤ 2 ^ 30) (h : o07 V n cap o es) (hl : es.length ≤ 2 ^ 20) :
 w0b prog Z0g ([a.val, b.val] : List Value) S0e T0e n cap o V fun n' cap' o' V' => o07 V' n' cap' o' (es ++ [X00 e f]) := by
 have iz : ∀ {V1 : View}, BdAt V1 (BdV.mk 0 (NumV.mk (WhV.mk false (Sl.mk none 0 0)) (WhV.mk false (Sl.mk none 0 0)) (Sl.mk none 0 0))) ⟨0, 0⟩ := BdAt.zero _
 refine U0e n cap o a b V _ ⟨fun hc b1 V1 l1 _ hb1 => ?_, fun hc => ⟨fun hd b1 V1 l1 _ hb1 => ?_, fun hd => ?_⟩⟩
 · have hc : e.inf ≠ 0 := by rw [← ha.inf]; simpa using hc
   have e1 : X00 e f = ⟨0, 0⟩ := by unfold X00; rw [if_pos (.inl hc)]
   rw [e1]
   exact (h.le l1).push (R := fun n' cap' o' V' => o07 V' n' cap' o' (es ++ [⟨0, 0⟩])) (r := BdV.mk 0 (NumV.mk (WhV.mk false (Sl.mk none 0 0)) (WhV.mk false (Sl.mk none 0 0)) (Sl.mk none 0 0))) iz hl hb1 fun _ _ h => h
 · have hd : f.inf ≠ 0 := by rw [← hb.inf]; simpa using hd
   have e1 : X00 e f = ⟨0, 0⟩ := by unfold X00; rw [if_pos (.inr hd)]
   rw [e1]
   exact (h.le l1).push (R := fun n' cap' o' V' => o07 V' n' cap' o' (es ++ [⟨0, 0⟩])) (r := BdV.mk 0 (NumV.mk (WhV.mk false (Sl.mk none 0 0)) (WhV.mk false (Sl.mk none 0 0)) (Sl.mk none 0 0))) iz hl hb1 fun _ _ h => h
 · have hc : ¬ e.inf ≠ 0 := by rw [← ha.inf]; simpa using hc
   have hd : ¬ f.inf ≠ 0 := by rw [← hb.inf]; simpa using hd
   have s1 := m02 e.num e.num; have s2 := m02 f.num f.num; have s3 := j04 (e.num * e.num) (f.num * f.num)
   refine (z01 ha.num ha.num (by omega) (by omega)).mono fun v V1 l1 ⟨r1, hv, h1⟩ => ⟨r1, hv, ?_⟩
   refine (z01 (hb.num.le l1) (hb.num.le l1) (by omega) (by omega)).mono fun v V2 l2 ⟨r2, hv, h2⟩ => ⟨r2, hv, ?_⟩
   refine (I02 (h1.le l2) h2 (by omega) (by omega)).mono fun v V3 l3 ⟨r3, hv, h3⟩ => ⟨r3, hv, ?_⟩
   have L3 := View.le_trans l1 (View.le_trans l2 l3)
   refine (G08 (ha.num.le L3) h3 (by omega) (by omega)).mono fun v V4 l4 ⟨r4, er, hv, hz, hn⟩ => ⟨r4, er, hv, fun b1 V5 l5 _ hb1 => ?_⟩
   have h4 : G00 V4 r4 (X00 e f).num := by
    have e1 : (X00 e f).num = e.num.div (e.num * e.num + f.num * f.num) := by
     unfold X00; rw [if_neg (by rintro (h | h); exact hc h; exact hd h)]; exact (I0k e.x f.x).symm
    rw [e1]
    by_cases h0 : e.num * e.num + f.num * f.num = Cq.zero
    · have := (hz h0).2
      have e2 : e.num.div (e.num * e.num + f.num * f.num) = Cq.zero := by
       rw [h0]; refine Cq.ext' ?_ ?_
       · show (_ : Rat) / (0 * 0 + 0 * 0) = 0; simp [Rat.div_def]; try grind
       · show (_ : Rat) / (0 * 0 + 0 * 0) = 0; simp [Rat.div_def]; try grind
      rw [e2]; exact this
    · exact (hn h0).2
   have hi : (X00 e f).inf = 0 := by unfold X00; split <;> rfl
   have h5 : BdAt V5 (BdV.mk 0 r4) (X00 e f) := ⟨hi.symm, h4.le l5, .inl hi⟩
   exact (h.le (View.le_trans L3 (View.le_trans l4 l5))).push (R := fun n' cap' o' V' => o07 V' n' cap' o' (es ++ [X00 e f])) (r := BdV.mk 0 r4) h5 hl hb1 fun _ _ h => h
theorem a0a {V : View} {b : Nat} {r1 r2 : BdV} {e1 e2 : Eb} (h1 : BdAt V r1 e1) (h2 : BdAt V r2 e2)
 (hb : V b = some #[.int .i64 r1.inf, .bool r1.x.re.neg, r1.x.re.mag.v, .bool r1.x.im.neg, r1.x.im.mag.v, r1.x.under.v, .int .i64 r2.inf, .bool r2.x.re.neg, r2.x.re.mag.v, .bool r2.x.im.neg, r2.x.im.mag.v, r2.x.under.v]) :
 t0f V ⟨some ⟨b, 0, none⟩, 2, 2⟩ [e1, e2] :=
 J09 (o := r1.val.cells.toList ++ (r2.val.cells.toList ++ [])) hb ⟨_, _, rfl, rfl, ⟨r1, rfl, h1⟩, _, _, rfl, rfl, ⟨r2, rfl, h2⟩, rfl⟩ rfl
theorem u0i {V : View} {b : Nat} {e1 e2 : Eb} (h : t0f V ⟨some ⟨b, 0, none⟩, 2, 2⟩ [e1, e2]) {i : Nat} (hi : i < 2) :
 ((0 : Int) ≤ (i : Int) ∧ (i : Int) < (2 : Nat) ∧ Option.isSome (some (Addr.mk b 0 none)) = true) ∧
 ∃ x : BdV, View.has V (Option.map (fun q => Addr.add q (Int.toNat (i : Int) * 6)) (some (Addr.mk b 0 none))) (x.val).cells.toList ∧ Option.isSome (Option.map (fun q => Addr.add q (Int.toNat (i : Int) * 6)) (some (Addr.mk b 0 none))) = true ∧ BdAt V x (at2 e1 e2 i) := by
 obtain ⟨hb, x, ⟨b0, hx, hb0⟩, _, hh, hs⟩ := E02.get h (t := (i : Int)) (by omega) (z := at2 e1 e2 i) (by
  rw [Int.toNat_natCast]
  rcases (by omega : i = 0 ∨ i = 1) with rfl | rfl <;> rfl)
 exact ⟨hb, b0, hx ▸ hh, hs, hb0⟩
theorem Q0n {e1 e2 : Eb} {S i : Nat} (h1 : e1.num.sz ≤ S) (h2 : e2.num.sz ≤ S) : (at2 e1 e2 i).num.sz ≤ S := by
 cases i with
 | zero => exact h1
 | succ i => exact h2
theorem b0a {x y : Es} (sx : l01 x (2 ^ 12)) (sy : l01 y (2 ^ 12)) : ∀ e ∈ e03 x y, e.num.sz ≤ 2 ^ 18 := by
 have v : ∀ {a b : Eb}, a.num.sz ≤ 2 ^ 12 → b.num.sz ≤ 2 ^ 12 → (X00 a b).num.sz ≤ 2 ^ 18 := fun ha hb => Nat.le_trans (m0s ha hb) (by omega)
 have z : (Eb.fin 0).num.sz ≤ 2 ^ 12 := Nat.le_trans q0i (by omega)
 have A : ∀ {a : Eb}, a.num.sz ≤ 2 ^ 12 → ∀ e ∈ rowA y a, e.num.sz ≤ 2 ^ 18 := by
  intro a ha e he
  unfold rowA rowZ at he
  split at he
  · simp only [List.cons_append, List.nil_append, List.mem_cons, List.not_mem_nil, or_false] at he
    rcases he with rfl | rfl | rfl
    · exact v ha sy.1
    · exact v ha sy.2
    · exact v ha z
  · simp only [List.append_nil, List.mem_cons, List.not_mem_nil, or_false] at he
    rcases he with rfl | rfl
    · exact v ha sy.1
    · exact v ha sy.2
 have C : ∀ {b a : Eb}, b.num.sz ≤ 2 ^ 12 → a.num.sz ≤ 2 ^ 12 → ∀ e ∈ colB x b a, e.num.sz ≤ 2 ^ 18 := by
  intro b a hb ha e he
  unfold colB at he
  split at he
  · simp only [List.mem_cons, List.not_mem_nil, or_false] at he
    subst he; exact v ha hb
  · simp at he
 have B : ∀ {b : Eb}, b.num.sz ≤ 2 ^ 12 → ∀ e ∈ rowB x b, e.num.sz ≤ 2 ^ 18 := by
  intro b hb e he
  unfold rowB at he
  rcases List.mem_append.1 he with h | h
  · exact C hb hb e h
  · exact C hb (by rw [a06]; exact hb) e h
 intro e he
 simp only [e03, preB, preA] at he
 rcases List.mem_append.1 he with h | h
 · rcases List.mem_append.1 h with h | h
   · exact A sx.1 e h
   · exact A sx.2 e h
 · rcases List.mem_append.1 h with h | h
   · exact B sy.1 e h
   · exact B sy.2 e h
theorem n0s {x y : Es} (sx : l01 x (2 ^ 12)) (sy : l01 y (2 ^ 12)) : ∀ e ∈ e03 x y, e.num.sz ≤ 2 ^ 40 := fun e he => Nat.le_trans (b0a sx sy e he) (by omega)
theorem E0g {V : View} {s t : SetV} {x y : Es} (hx : EsAt V s x) (hy : EsAt V t y) (sx : l01 x (2 ^ 12)) (sy : l01 y (2 ^ 12)) :
 a00 prog o0l #[s.val, t.val] V fun v V' => ∃ r : SetV, v = r.val ∧ EsAt V' r (x.share y) := by
 refine K0j s t V _
  (fun _ w V' => ∃ i : Nat, i ≤ 2 ∧ w.t22 = i ∧ o07 V' w.o5_0l w.o5_0c w.o6 (preA x y i)) (fun _ w _ => (2 - w.t22).toNat)
  (fun c w V' => ∃ j : Nat, j ≤ 2 ∧ w.t32 = j ∧ o07 V' w.o5_0l w.o5_0c w.o6 (preA x y c.t22.toNat ++ inA y (at2 x.lo x.hi c.t22.toNat) j)) (fun _ w _ => (2 - w.t32).toNat)
  (fun _ w V' => ∃ i : Nat, i ≤ 2 ∧ w.t59 = i ∧ o07 V' w.o5_0l w.o5_0c w.o6 (preB x y i)) (fun _ w _ => (2 - w.t59).toNat)
  (fun c w V' => ∃ j : Nat, j ≤ 2 ∧ w.t68 = j ∧ o07 V' w.o5_0l w.o5_0c w.o6 (preB x y c.t59.toNat ++ inB x (at2 y.lo y.hi c.t59.toNat) j)) (fun _ w _ => (2 - w.t68).toNat) ?_
 intro b1 V1 l1 _ hb1
 replace hx := hx.le l1; replace hy := hy.le l1
 have hxs := a0a hx.lo hx.hi hb1
 refine ⟨⟨0, by omega, rfl, [], K05.nil, rfl, rfl⟩, ?_⟩
 rintro ⟨t22, o4, o5l, o5c, o6⟩ V2 l2 ⟨i, hi, rfl, hg⟩
 dsimp only at hg ⊢
 have big : ∀ {e : Eb}, e.num.sz ≤ 2 ^ 12 → e.num.sz ≤ 2 ^ 30 := fun h => Nat.le_trans h (by omega)
 have big40 : ∀ {e : Eb}, e.num.sz ≤ 2 ^ 12 → e.num.sz ≤ 2 ^ 40 := fun h => Nat.le_trans h (by omega)
 refine ⟨fun hlt => ?_, fun hge => ?_⟩
 · simp only [decide_eq_true_eq] at hlt
   have hi2 : i < 2 := by omega
   obtain ⟨hb, x3, hh, hs, hx3⟩ := u0i (hxs.le l2) hi2
   have sx3 : (at2 x.lo x.hi i).num.sz ≤ 2 ^ 12 := Q0n sx.1 sx.2
   refine ⟨hb, x3, hh, hs, fun b2 V3 l3 _ hb2 => ?_⟩
   have hys := a0a (hy.lo.le (View.le_trans l2 l3)) (hy.hi.le (View.le_trans l2 l3)) hb2
   refine ⟨⟨0, by omega, rfl, ?_⟩, ?_⟩
   · rw [Int.toNat_natCast]; simpa [inA] using hg.le l3
   rintro ⟨t32, q5l, q5c, q6⟩ V4 l4 ⟨j, hj, rfl, hg2⟩
   dsimp only at hg2 ⊢
   rw [Int.toNat_natCast] at hg2
   have L34 := View.le_trans l3 l4
   have ln1 := p0n x y i; have ln2 := w0u y (at2 x.lo x.hi i) j
   refine ⟨fun hlt2 => ?_, fun hge2 => ?_⟩
   · simp only [decide_eq_true_eq] at hlt2
     have hj2 : j < 2 := by omega
     obtain ⟨hb', x6, hh', hs', hx6⟩ := u0i (hys.le l4) hj2
     refine ⟨hb', x6, hh', hs', ?_⟩
     refine (I08 (hx3.le L34) hx6 (big sx3) (big (Q0n sy.1 sy.2)) hg2 (by simp only [List.length_append]; omega)).mono fun n' c' o' V5 l5 _ hg3 => ?_
     rw [i64w (by omega) (by omega)]
     rw [List.append_assoc, S0s y _ hj2] at hg3
     refine ⟨⟨j + 1, by omega, by simp, ?_⟩, ?_⟩
     · rw [Int.toNat_natCast]; exact hg3
     · omega
   · simp only [decide_eq_false_iff_not] at hge2
     have hj2 : j = 2 := by omega
     subst hj2
     have done : ∀ {V' : View} {n c : Nat} {o : List Value}, o07 V' n c o (preA x y i ++ inA y (at2 x.lo x.hi i) 2 ++ rowZ y (at2 x.lo x.hi i)) → ∃ i' : Nat, i' ≤ 2 ∧ (i : Int) + 1 = i' ∧ o07 V' n c o (preA x y i') := by
      intro V' n c o h
      refine ⟨i + 1, by omega, by simp, ?_⟩
      rw [← s0r x y hi2]
      rw [List.append_assoc] at h; exact h
     have hy4 := hy.le (View.le_trans l2 L34)
     refine (e0b hy4 sy (by omega)).mono fun v V6 l6 hv => ⟨_, hv, fun hc => ?_, fun hc => ?_⟩
     · have hx3' := hx3.le (View.le_trans L34 l6)
       refine (z02 hx3' (big40 sx3)).mono fun v V7 l7 hv => ⟨_, hv, fun hd => ?_, fun hd => ?_⟩
       · have hd : (at2 x.lo x.hi i).sign ≠ 0 := by simpa using hd
         refine (I08 (hx3'.le l7) (BdAt.zero V7) (big sx3) (Nat.le_trans q0i (by omega)) (hg2.le (View.le_trans l6 l7)) (by simp only [List.length_append]; omega)).mono fun n' c' o' V8 l8 _ hg3 => ?_
         rw [i64w (by omega) (by omega)]
         refine ⟨done ?_, by omega⟩
         have : rowZ y (at2 x.lo x.hi i) = [X00 (at2 x.lo x.hi i) (Eb.fin 0)] := by unfold rowZ; rw [if_pos ⟨hc, hd⟩]
         rw [this]; exact hg3
       · have hd : (at2 x.lo x.hi i).sign = 0 := by simpa using hd
         rw [i64w (by omega) (by omega)]
         refine ⟨done ?_, by omega⟩
         have : rowZ y (at2 x.lo x.hi i) = [] := by unfold rowZ; rw [if_neg (fun h => h.2 hd)]
         rw [this, List.append_nil]; exact hg2.le (View.le_trans l6 l7)
     · rw [i64w (by omega) (by omega)]
       refine ⟨done ?_, by omega⟩
       have : rowZ y (at2 x.lo x.hi i) = [] := by unfold rowZ; rw [if_neg (fun h => by rw [hc] at h; simp at h)]
       rw [this, List.append_nil]; exact hg2.le l6
 · simp only [decide_eq_false_iff_not] at hge
   have hi2 : i = 2 := by omega
   subst hi2
   intro b3 V9 l9 _ hb3
   replace hx := hx.le (View.le_trans l2 l9); replace hy := hy.le (View.le_trans l2 l9)
   have hys := a0a hy.lo hy.hi hb3
   refine ⟨⟨0, by omega, rfl, hg.le l9⟩, ?_⟩
   rintro ⟨t59, r4, r5l, r5c, r6⟩ V10 l10 ⟨k, hk, rfl, hgk⟩
   dsimp only at hgk ⊢
   refine ⟨fun hlt => ?_, fun hge => ?_⟩
   · simp only [decide_eq_true_eq] at hlt
     have hk2 : k < 2 := by omega
     obtain ⟨hb, x13, hh, hs, hx13⟩ := u0i (hys.le l10) hk2
     have s13 : (at2 y.lo y.hi k).num.sz ≤ 2 ^ 12 := Q0n sy.1 sy.2
     refine ⟨hb, x13, hh, hs, ?_⟩
     refine (T00 hx13).mono fun v V11 l11 ⟨r3, hv, hr3⟩ => ⟨r3, hv, fun b4 V12 l12 _ hb4 => ?_⟩
     have hzs := a0a (hx13.le (View.le_trans l11 l12)) (hr3.le l12) hb4
     have sn : (at2 y.lo y.hi k).neg.num.sz ≤ 2 ^ 12 := by rw [a06]; exact s13
     refine ⟨⟨0, by omega, rfl, ?_⟩, ?_⟩
     · rw [Int.toNat_natCast]; simpa [inB] using hgk.le (View.le_trans l11 l12)
     rintro ⟨t68, q5l, q5c, q6⟩ V13 l13 ⟨j, hj, rfl, hg2⟩
     dsimp only at hg2 ⊢
     rw [Int.toNat_natCast] at hg2
     have L := View.le_trans l10 (View.le_trans l11 (View.le_trans l12 l13))
     have hx13' := hx13.le (View.le_trans l11 (View.le_trans l12 l13))
     have ln1 := q0n x y k; have ln2 := x0u x (at2 y.lo y.hi k) j
     refine ⟨fun hlt2 => ?_, fun hge2 => ?_⟩
     · simp only [decide_eq_true_eq] at hlt2
       have hj2 : j < 2 := by omega
       obtain ⟨hb', x16, hh', hs', hx16⟩ := u0i (hzs.le l13) hj2
       have s16 : (at2 (at2 y.lo y.hi k) (at2 y.lo y.hi k).neg j).num.sz ≤ 2 ^ 12 := Q0n s13 sn
       refine ⟨hb', x16, hh', hs', ?_⟩
       have stay : ∀ {V' : View} {n c : Nat} {o : List Value}, o07 V' n c o (preB x y k ++ inB x (at2 y.lo y.hi k) j ++ colB x (at2 y.lo y.hi k) (at2 (at2 y.lo y.hi k) (at2 y.lo y.hi k).neg j)) →
        ∃ j' : Nat, j' ≤ 2 ∧ (j : Int) + 1 = j' ∧ o07 V' n c o (preB x y (Int.toNat (k : Int)) ++ inB x (at2 y.lo y.hi (Int.toNat (k : Int))) j') := by
        intro V' n c o h
        rw [Int.toNat_natCast]
        refine ⟨j + 1, by omega, by simp, ?_⟩
        rw [List.append_assoc, T0s x _ hj2] at h; exact h
       have none : ∀ {V' : View}, V13.le V' → ¬ ((at2 y.lo y.hi k).inf = 0 ∧ (at2 y.lo y.hi k).sign ≠ 0 ∧ x.lo.cmp (at2 (at2 y.lo y.hi k) (at2 y.lo y.hi k).neg j) ≤ 0 ∧ (at2 (at2 y.lo y.hi k) (at2 y.lo y.hi k).neg j).cmp x.hi ≤ 0) →
        o07 V' q5l q5c q6 (preB x y k ++ inB x (at2 y.lo y.hi k) j ++ colB x (at2 y.lo y.hi k) (at2 (at2 y.lo y.hi k) (at2 y.lo y.hi k).neg j)) := by
        intro V' hle hn
        have : colB x (at2 y.lo y.hi k) (at2 (at2 y.lo y.hi k) (at2 y.lo y.hi k).neg j) = [] := by unfold colB; rw [if_neg hn]
        rw [this, List.append_nil]; exact hg2.le hle
       refine ⟨fun ha => ?_, fun ha => ?_⟩
       · have ha : (at2 y.lo y.hi k).inf = 0 := by rw [← hx13.inf]; simpa using ha
         refine (z02 hx13' (big40 s13)).mono fun v V14 l14 hv => ⟨_, hv, fun hc => ?_, fun hc => ?_⟩
         · have hc : (at2 y.lo y.hi k).sign ≠ 0 := by simpa using hc
           refine (k03 (hx.lo.le (View.le_trans L l14)) (hx16.le l14) (big40 sx.1) (big40 s16)).mono fun v V15 l15 hv => ⟨_, hv, fun hd => ?_, fun hd => ?_⟩
           · have hd : x.lo.cmp (at2 (at2 y.lo y.hi k) (at2 y.lo y.hi k).neg j) ≤ 0 := by simpa using hd
             have M := View.le_trans l14 l15
             refine (k03 (hx16.le M) (hx.hi.le (View.le_trans L M)) (big40 s16) (big40 sx.2)).mono fun v V16 l16 hv => ⟨_, hv, fun he => ?_, fun he => ?_⟩
             · have he : (at2 (at2 y.lo y.hi k) (at2 y.lo y.hi k).neg j).cmp x.hi ≤ 0 := by simpa using he
               have M2 := View.le_trans M l16
               refine (I08 (hx16.le M2) (hx13'.le M2) (big s16) (big s13) (hg2.le M2) (by simp only [List.length_append]; omega)).mono fun n' c' o' V17 l17 _ hg3 => ?_
               rw [i64w (by omega) (by omega)]
               refine ⟨stay ?_, by omega⟩
               have : colB x (at2 y.lo y.hi k) (at2 (at2 y.lo y.hi k) (at2 y.lo y.hi k).neg j) = [X00 (at2 (at2 y.lo y.hi k) (at2 y.lo y.hi k).neg j) (at2 y.lo y.hi k)] := by unfold colB; rw [if_pos ⟨ha, hc, hd, he⟩]
               rw [this]; exact hg3
             · have he : ¬ (at2 (at2 y.lo y.hi k) (at2 y.lo y.hi k).neg j).cmp x.hi ≤ 0 := by simpa using he
               rw [i64w (by omega) (by omega)]
               exact ⟨stay (none (View.le_trans M l16) fun h => he h.2.2.2), by omega⟩
           · have hd : ¬ x.lo.cmp (at2 (at2 y.lo y.hi k) (at2 y.lo y.hi k).neg j) ≤ 0 := by simpa using hd
             rw [i64w (by omega) (by omega)]
             exact ⟨stay (none (View.le_trans l14 l15) fun h => hd h.2.2.1), by omega⟩
         · have hc : (at2 y.lo y.hi k).sign = 0 := by simpa using hc
           rw [i64w (by omega) (by omega)]
           exact ⟨stay (none l14 fun h => h.2.1 hc), by omega⟩
       · have ha : ¬ (at2 y.lo y.hi k).inf = 0 := by rw [← hx13.inf]; simpa using ha
         rw [i64w (by omega) (by omega)]
         exact ⟨stay (none (View.le_refl V13) fun h => ha h.1), by omega⟩
     · simp only [decide_eq_false_iff_not] at hge2
       have hj2 : j = 2 := by omega
       subst hj2
       rw [i64w (by omega) (by omega)]
       refine ⟨⟨k + 1, by omega, by simp, ?_⟩, by omega⟩
       rw [← t0r x y hk2]; exact hg2
   · simp only [decide_eq_false_iff_not] at hge
     have hk2 : k = 2 := by omega
     subst hk2
     intro b5 V18 l18 hb5
     obtain ⟨o, ho, hcs, hn⟩ := hgk.le l18
     have hL : t0f V18 ⟨lstA b5 r5c, r5l, r5c⟩ (e03 x y) := K0i ho hb5 hcs hn
     have hlen := q0n x y 2
     have hsz := n0s (x := x) (y := y) sx sy
     refine (Z0b hL (D05 x y) (Nat.le_trans hlen (by omega)) hsz).mono fun v V19 l19 ⟨r7, hv, h7⟩ => ⟨r7, hv, ?_⟩
     exact (Y05 (hL.le l19) (D05 x y) (Nat.le_trans hlen (by omega)) hsz).mono fun v V20 l20 ⟨r8, hv, h8⟩ => ⟨r8, hv, _, rfl, h7.le l20, h8⟩
theorem F0g {x y : Es} (sx : l01 x (2 ^ 12)) (sy : l01 y (2 ^ 12)) : l01 (x.share y) (2 ^ 18) :=
 ⟨m0e (D05 x y) (b0a sx sy), m0e (D05 x y) (b0a sx sy)⟩

theorem c0u {s : Sk} (h : s.ok) : l01 s.set (2 ^ 12) := ⟨Nat.le_trans (Z09 h.lo) (by omega), Nat.le_trans (Z09 h.hi) (by omega)⟩
theorem E0c {V : View} {b : Bk} (h : b.ok) : a00 prog w0q #[b.v.val] V fun v _ => v = .tuple #[b.inv.v.val, .int .i64 b.invE] := by
 refine m0p b.v V _ ((P06 h).mono fun v V1 _ hv => ⟨_, hv, fun hc => ?_, fun hc => ?_⟩)
 · have hc : b.clear = false := by unfold Bk.clear; simpa using hc
   unfold Bk.inv Bk.invE; rw [hc]; rfl
 · have hc : b.clear = true := by unfold Bk.clear; simpa using hc
   have s1 := c0u h.re; have s2 := c0u h.im
   refine (c03 h.re).mono fun v V2 l2 ⟨x, hv, hx⟩ => ⟨x, hv, (c03 h.im).mono fun v V3 l3 ⟨y, hv, hy⟩ => ⟨y, hv, ?_⟩⟩
   refine (E0g (hx.le l3) hy s1 s2).mono fun v V4 l4 ⟨r, hv, hr⟩ => ⟨r, hv, ?_⟩
   refine (b03 hr (F0g s1 s2) (by omega)).mono fun v V5 l5 hv => ⟨_, hv, ?_⟩
   have L := View.le_trans l4 l5
   refine (E0g (hy.le L) (hx.le (View.le_trans l3 L)) s2 s1).mono fun v V6 l6 ⟨q, hv, hq⟩ => ⟨q, hv, ?_⟩
   refine (F08 hq).mono fun v V7 l7 ⟨p, hv, hp⟩ => ⟨p, hv, ?_⟩
   refine (b03 hp (g0b (F0g s2 s1)) (by omega)).mono fun v V8 l8 hv => ⟨_, hv, ?_⟩
   unfold Bk.inv Bk.invE; rw [hc]; rfl
theorem W0p {V : View} : a00 prog i0j #[] V fun v _ => v = .bool true := by
 refine t0h V _ ?_
 refine (g0s (c := CxV.mk 4607182418800017408 0) (d := CxV.mk 4611686018427387904 4607182418800017408) (by decide) (by decide) (by decide) (by decide)).mono fun v V1 _ hv => ⟨awB.v, 0, ?_, ?_⟩
 · rw [hv]
   show Value.tuple #[(mkB 4607182418800017408 0 4611686018427387904 4607182418800017408).v.val, .int .i64 (mkBE 4607182418800017408 0 4611686018427387904 4607182418800017408)] = _
   rw [u0m.1, u0m.2]
 have ok : awB.ok := by rw [← u0m.1]; exact A0v _ _ _ _
 have okP : awP.ok := by rw [← O0t]; exact Bk.mul_ok _ _
 refine (E0c ok).mono fun v V2 _ hv => ⟨awB.invB.v, 0, ?_, ?_⟩
 · rw [hv]; unfold Bk.inv Bk.invE; rw [W0h.1]; rfl
 refine (H08 ok ok).mono fun v V3 _ hv => ⟨awP.v, by rw [hv, O0t], ⟨fun _ => ⟨fun _ => ?_, fun h => absurd h (by decide)⟩, fun h => absurd h (by decide)⟩⟩
 refine (j0s awP.v).mono fun v V4 _ hv => ⟨CxV.mk 0 0, hv, fun _ => ?_, fun h => absurd h (by decide +kernel)⟩
 refine (k0s awP.v).mono fun v V5 _ hv => ⟨CxV.mk 4616189618054758400 4616189618054758400, hv, fun _ => ?_, fun h => absurd h (by decide +kernel)⟩
 have e1 : awB.invB.v.im.lo = 13826050856027422720 := by show t01 awB.invB.im.lo = _; rw [P0t.1]; decide
 have e2 : awB.invB.v.re.hi = 4607182418800017408 := by show t01 awB.invB.re.hi = _; rw [P0t.2]; decide
 refine (j0s awB.invB.v).mono fun v V6 _ hv => ⟨CxV.mk awB.invB.v.re.lo 13826050856027422720, by rw [hv, e1], fun _ => ?_, fun h => absurd h (by decide +kernel)⟩
 refine (k0s awB.invB.v).mono fun v V7 _ hv => ⟨CxV.mk 4607182418800017408 awB.invB.v.im.hi, by rw [hv, e2], fun _ => ?_, fun h => absurd h (by decide +kernel)⟩
 refine (P06 ok).mono fun v V8 _ hv => ⟨true, by rw [hv]; exact congrArg Value.bool W0h.1, fun _ => ?_, fun h => absurd h (by decide)⟩
 exact (P06 okP).mono fun v V9 _ hv => ⟨false, by rw [hv]; exact congrArg Value.bool W0h.2, rfl⟩
theorem i0b {V : View} {x : Nat} (h : okW x) : a00 prog D0o #[.float .f64 x] V fun v _ => v = .float .f64 (t01 (key x)) := by
 have z0 : okW 0 := ⟨by decide, by decide⟩
 have k0 : key 0 = 0 := by decide
 refine Q0l x V _ ⟨fun hc => ?_, fun hc => ?_⟩
 · rw [N0a h z0, k0] at hc
   have hc : key x = 0 := by simpa using hc
   rw [hc]; rfl
 · rw [N0a h z0, k0] at hc
   have hc : ¬ key x = 0 := by simpa using hc
   have : t01 (key x) = x := m0k h.1 (by rintro rfl; exact hc (by decide))
   rw [this]
theorem j0b {V : View} {x y : Nat} (hx : x < 2 ^ 64) (hy : y < 2 ^ 64) : a00 prog C0d #[.float .f64 x, .float .f64 y] V fun v _ => v = .tuple #[(mkS x y).v.val, .int .i64 (mkE x y)] := by
 have bad : ∀ {e : Int}, mkE x y = e → e ≠ 0 → (Value.tuple #[(SpV.mk 0 0).val, .int .i64 e]) = .tuple #[(mkS x y).v.val, .int .i64 (mkE x y)] := by
  intro e he h0
  unfold mkS; rw [he, if_neg h0, U0n]
 refine L0c x y V _ ((A04 hx).mono fun v V1 _ hv => ⟨_, hv, fun hc => ?_, fun hc => ?_⟩)
 · have hc : ¬ okW x := by simpa using hc
   exact bad (by unfold mkE; rw [if_pos (.inl hc)]) (by decide)
 have h1 : okW x := by simpa using hc
 refine (A04 hy).mono fun v V2 _ hv => ⟨_, hv, fun hc => ?_, fun hc => ?_⟩
 · have hc : ¬ okW y := by simpa using hc
   exact bad (by unfold mkE; rw [if_pos (.inr (.inl hc))]) (by decide)
 have h2 : okW y := by simpa using hc
 refine (n0i hx).mono fun v V3 _ hv => ⟨_, hv, fun hc => ?_, fun hc => ?_⟩
 · have hc : key x = (infR : Int) := by simp only [decide_eq_true_eq] at hc; exact hc.2
   exact bad (by unfold mkE; rw [if_pos (.inr (.inr (.inl hc)))]) (by decide)
 have h3 : ¬ key x = (infR : Int) := by simp only [decide_eq_false_iff_not] at hc; exact fun e => hc ⟨h1, e⟩
 refine (W0b hy).mono fun v V4 _ hv => ⟨_, hv, fun hc => ?_, fun hc => ?_⟩
 · have hc : key y = -(infR : Int) := by simp only [decide_eq_true_eq] at hc; exact hc.2
   exact bad (by unfold mkE; rw [if_pos (.inr (.inr (.inr hc)))]) (by decide)
 have h4 : ¬ key y = -(infR : Int) := by simp only [decide_eq_false_iff_not] at hc; exact fun e => hc ⟨h2, e⟩
 have hno : ¬ (¬ okW x ∨ ¬ okW y ∨ key x = (infR : Int) ∨ key y = -(infR : Int)) := by
  rintro (h | h | h | h)
  · exact h h1
  · exact h h2
  · exact h3 h
  · exact h4 h
 refine ⟨fun hc => ?_, fun hc => ?_⟩
 · rw [M0a h1 h2] at hc
   have hc : key y < key x := by simpa using hc
   exact bad (by unfold mkE; rw [if_neg hno, if_pos hc]) (by decide)
 · rw [M0a h1 h2] at hc
   have hc : ¬ key y < key x := by simpa using hc
   have he : mkE x y = 0 := by unfold mkE; rw [if_neg hno, if_neg hc]
   refine (i0b h1).mono fun v V5 _ hv => ⟨_, hv, (i0b h2).mono fun v V6 _ hv => ⟨_, hv, ?_⟩⟩
   unfold mkS; rw [he, if_pos rfl]; rfl
theorem H09 {V : View} {p : S0g} (h1 : U64 p.lo) (h2 : U64 p.hi) : a00 prog H0c #[p.val] V fun v _ => ∃ (s : Sk) (c : Bool), s.ok ∧ (c = true → s.proper) ∧ v = .tuple #[s.v.val, s.v.val, .bool c] := by
 obtain ⟨a, ha, ha2⟩ := h1.nat
 obtain ⟨b, hb, hb2⟩ := h2.nat
 have floats : a00 prog p0a #[p.val] V fun v _ => ∃ x y : Nat, x < 2 ^ 64 ∧ y < 2 ^ 64 ∧ v = .tuple #[.float .f64 x, .float .f64 y] := by
  refine P09 p V _ ⟨a, by rw [ha]; exact l04 a, b, by rw [hb]; exact l04 b, fun _ => ?_, fun _ => ?_⟩
  · exact ⟨b, a, hb2, ha2, rfl⟩
  · exact ⟨a, b, ha2, hb2, rfl⟩
 refine F0b p V _ (floats.mono fun v V1 _ ⟨x, y, hx, hy, hv⟩ => ⟨x, y, hv, ?_⟩)
 refine (j0b hx hy).mono fun v V2 _ hv => ⟨_, _, hv, fun hc => ?_, fun hc => ?_⟩
 · exact ⟨Sk.nil, false, Sk.nil_ok, fun h => absurd h (by decide), rfl⟩
 · have hc : mkE x y = 0 := by simpa using hc
   refine (L07 hx hy).mono fun v V3 _ hv => ⟨_, _, hv, mkS x y, true, q0r x y, fun _ => F0p hc, rfl⟩

theorem J0k {V : View} {p : O07} (h : p.u64) : a00 prog E0b #[p.val] V fun v _ => ∃ (b : Bk) (c : Bool), b.ok ∧ (c = true → b.proper) ∧ v = .tuple #[b.v.val, b.v.val, .bool c] := by
 obtain ⟨h1, h2, h3, h4⟩ := h
 refine u0a p V _ ((H09 h1 h2).mono fun v V1 _ ⟨s, c, hs, hc, hv⟩ => ⟨_, _, _, hv, ?_⟩)
 refine (H09 h3 h4).mono fun v V2 _ ⟨t, d, ht, hd, hv⟩ => ⟨_, _, _, hv, ?_⟩
 refine (i0s s.v t.v).mono fun v V3 _ hv => ⟨_, hv, fun hcc => ?_, fun _ => ?_⟩
 · exact ⟨⟨s, t⟩, d, ⟨hs, ht⟩, fun hdd => ⟨hc hcc, hd hdd⟩, rfl⟩
 · exact ⟨⟨s, t⟩, false, ⟨hs, ht⟩, fun h => absurd h (by decide), rfl⟩

theorem k0b {V : View} {s t : Sk} (h : s.ok) (k : t.ok) : a00 prog q0o #[s.v.val, t.v.val] V fun v _ => v = (Sk.v (s.set.add t.set).span).val := by
 refine O0l s.v t.v V _ ((c03 h).mono fun v V1 l1 ⟨a, hv, ha⟩ => ⟨a, hv, (c03 k).mono fun v V2 l2 ⟨b, hv, hb⟩ => ⟨b, hv, ?_⟩⟩)
 refine (F05 (ha.le l2) hb (C02 h) (C02 k) (by omega)).mono fun v V3 l3 ⟨c, hv, hc⟩ => ⟨c, hv, ?_⟩
 exact (b03 hc (f0b (C02 h) (C02 k)) (by omega)).mono fun v V4 _ hv => ⟨_, hv, rfl⟩
theorem l0b {V : View} {s t : Sk} (h : s.ok) (k : t.ok) : a00 prog s0o #[s.v.val, t.v.val] V fun v _ => v = (Sk.v (s.set.add t.set.neg).span).val := by
 refine P0l s.v t.v V _ ((c03 h).mono fun v V1 l1 ⟨a, hv, ha⟩ => ⟨a, hv, (c03 k).mono fun v V2 l2 ⟨b, hv, hb⟩ => ⟨b, hv, ?_⟩⟩)
 refine (F08 hb).mono fun v V3 l3 ⟨d, hv, hd⟩ => ⟨d, hv, ?_⟩
 refine (F05 (ha.le (View.le_trans l2 l3)) hd (C02 h) (g0b (C02 k)) (by omega)).mono fun v V4 l4 ⟨c, hv, hc⟩ => ⟨c, hv, ?_⟩
 exact (b03 hc (f0b (C02 h) (g0b (C02 k))) (by omega)).mono fun v V5 _ hv => ⟨_, hv, rfl⟩
theorem K0k {V : View} {b c : Bk} (h : b.ok) (k : c.ok) : a00 prog j0j #[b.v.val, c.v.val] V fun v _ => v = (b.add c).v.val :=
 k0p b.v c.v V _ ((k0b h.re k.re).mono fun _ _ _ hv => ⟨_, hv, (k0b h.im k.im).mono fun _ _ _ hv => ⟨_, hv, rfl⟩⟩)
theorem L0k {V : View} {b c : Bk} (h : b.ok) (k : c.ok) : a00 prog k0j #[b.v.val, c.v.val] V fun v _ => v = (b.sub c).v.val :=
 l0p b.v c.v V _ ((l0b h.re k.re).mono fun _ _ _ hv => ⟨_, hv, (l0b h.im k.im).mono fun _ _ _ hv => ⟨_, hv, rfl⟩⟩)

theorem o0e {V : View} {k l : Int} (hk : inK k) (hl : inK l) : a00 prog o0a #[.complex .f64 (t01 k) (t01 l)] V fun v V' => ∃ (r : NumV) (e : Int), v = .tuple #[r.val, .int .i64 e] ∧
 ((k.natAbs < infR ∧ l.natAbs < infR) → G00 V' r ⟨fkq k, fkq l⟩) ∧ (¬ (k.natAbs < infR ∧ l.natAbs < infR) → G00 V' r Cq.zero) := by
 have m : ∀ {k : Int}, inK k → t01 k % 2 ^ 63 = k.natAbs := by
  intro k h
  have := K0a (w := t01 k) (okK h).1
  rw [keyK h] at this; exact this.symm
 by_cases c : k.natAbs < infR ∧ l.natAbs < infR
 · refine (C0c (c := CxV.mk (t01 k) (t01 l)) ⟨(okK hk).1, by show t01 k % 2 ^ 63 < infR; rw [m hk]; exact c.1⟩ ⟨(okK hl).1, by show t01 l % 2 ^ 63 < infR; rw [m hl]; exact c.2⟩).mono fun v V' _ ⟨r, hv, hr⟩ => ⟨r, _, hv, fun _ => ?_, fun h => absurd c h⟩
   have e1 : fq (t01 k) = fkq k := by show fkq (key (t01 k)) = _; rw [keyK hk]
   have e2 : fq (t01 l) = fkq l := by show fkq (key (t01 l)) = _; rw [keyK hl]
   rw [← e1, ← e2]; exact hr
 · refine q09 (CxV.mk (t01 k) (t01 l)) V _ ((K07 (okK hk).1).mono fun v V1 _ hv => ⟨_, hv, fun _ => ?_, fun h1 => ?_⟩)
   · exact ⟨_, _, rfl, fun h => absurd h c, fun _ => G00.zero _⟩
   · refine (K07 (okK hl).1).mono fun v V2 _ hv => ⟨_, hv, fun _ => ?_, fun h2 => ?_⟩
     · exact ⟨_, _, rfl, fun h => absurd h c, fun _ => G00.zero _⟩
     · exfalso
       have h1 : t01 k % 2 ^ 63 < infR := by simpa using h1
       have h2 : t01 l % 2 ^ 63 < infR := by simpa using h2
       rw [m hk] at h1; rw [m hl] at h2
       exact c ⟨h1, h2⟩

theorem fd32 (z : Nat) : Int.fdiv (z : Int) (2 ^ (min (Int.toNat 32) (u64.bits))) = ((z / 4294967296 : Nat) : Int) := by
 have e2 : (2 : Int) ^ (min (Int.toNat 32) (u64.bits)) = 4294967296 := by decide
 rw [e2, Int.fdiv_eq_ediv_of_nonneg _ (by omega)]; omega
theorem fd63 (z : Nat) : Int.fdiv (z : Int) (2 ^ (min (Int.toNat 63) (u64.bits))) = ((z / 9223372036854775808 : Nat) : Int) := by
 have e2 : (2 : Int) ^ (min (Int.toNat 63) (u64.bits)) = 9223372036854775808 := by decide
 rw [e2, Int.fdiv_eq_ediv_of_nonneg _ (by omega)]; omega
theorem u32n (z : Nat) : u32.wrap (z : Int) = ((z % 4294967296 : Nat) : Int) := by rw [u32m]; omega
theorem u64n {z : Nat} (h : z < 18446744073709551616) : u64.wrap (z : Int) = (z : Int) := u64w (by omega) (by omega)
theorem o0s (c : Prop) [Decidable c] (a : Option Addr) : (if c then a else Option.map (fun q => Addr.add q (Int.toNat 0 * 1)) a) = a := by
 have e : (fun q : Addr => Addr.add q (Int.toNat 0 * 1)) = id := by funext q; simp [Addr.add]
 rw [e]; simp
theorem X01 {V : View} {s : Sl} {l : List Nat} (h : z00 V s l) (hs : l.length ≤ 2 ^ 50) :
 a00 prog H0l #[s.v] V fun v V' => ∃ r : Sl, v = r.v ∧ e00 V' r (wval l) := by
 have hlen := h.len
 refine d0k s V _ (fun _ x _ => 0 ≤ x.t3 ∧ x.t3 ≤ s.len ∧ ∀ d ∈ l.drop x.t3.toNat, d = 0) (fun _ x _ => x.t3.toNat) ⟨⟨Int.natCast_nonneg _, Int.le_refl _, ?_⟩, ?_⟩
 · intro d hd
   simp only [Int.toNat_natCast, hlen, List.drop_length] at hd
   simp at hd
 rintro ⟨t⟩ V1 hle ⟨h0, h1, h2⟩
 simp only at h0 h1 h2 ⊢
 have hcap := h.cap
 -- what is handed back
 have out : t = 0 ∨ l.getD (t.toNat - 1) 0 ≠ 0 → e00 V1 (Sl.mk (if s.cap = Int.toNat 0 then s.a else Option.map (fun q => Addr.add q (Int.toNat 0 * 1)) s.a) (Int.toNat t - Int.toNat 0) (s.cap - Int.toNat 0)) (wval l) := by
  intro hz
  have hw : wval l = wval (l.take t.toNat) := by
   rw [E0a l t.toNat, n0c h2]; omega
  rw [hw, o0s]
  refine z00.nat ⟨?_, ?_, ?_, h.wb.take _⟩ ?_
  · intro i d hi
    have hi' : i < t.toNat := by
     rcases Nat.lt_or_ge i t.toNat with h | h
     · exact h
     · rw [List.getElem?_eq_none (by simp; omega)] at hi; simp at hi
    rw [List.getElem?_take_of_lt hi'] at hi
    exact a02 hle (h.load i d hi)
  · simp; omega
  · simp only [Int.toNat_zero]; omega
  · intro d hd
    rcases hz with rfl | hz
    · simp at hd
    · have h3 : t.toNat ≠ 0 := by
        intro e; rw [e] at hd; simp at hd
      rw [List.getLast?_eq_getElem?] at hd
      have h4 : (l.take t.toNat).length = t.toNat := by simp; omega
      rw [h4, List.getElem?_take_of_lt (by omega)] at hd
      simp only [List.getD, hd, Option.getD_some] at hz
      exact hz
 refine ⟨fun hp => ?_, fun hp => ⟨by simp, fun _ => ⟨⟨by omega, by omega, by omega⟩, _, rfl, out (.inl ?_)⟩⟩⟩
 · simp only [decide_eq_true_eq] at hp
   rw [i64w (by omega) (by omega)]
   refine ⟨⟨by omega, by omega, h.isSome (by omega)⟩, _, (h.le hle).get (by omega) (by omega), fun hz => ?_, fun hz => ⟨⟨by omega, by omega, by omega⟩, _, rfl, out (.inr ?_)⟩⟩
   · simp only [beq_iff_eq] at hz
     refine ⟨⟨by omega, by omega, fun d hd => ?_⟩, by omega⟩
     have hlt : (t - 1).toNat < l.length := by omega
     rw [List.drop_eq_getElem_cons hlt] at hd
     rcases List.mem_cons.1 hd with rfl | hd
     · simp only [List.getD, List.getElem?_eq_getElem hlt, Option.getD_some] at hz; omega
     · exact h2 d (by rw [show (t - 1).toNat + 1 = t.toNat by omega] at hd; exact hd)
   · simp only [beq_eq_false_iff_ne, ne_eq] at hz
     rw [show t.toNat - 1 = (t - 1).toNat by omega]
     intro e; rw [e] at hz; exact hz rfl
 · simp only [decide_eq_false_iff_not] at hp; omega
theorem D03 {V : View} {n : Int} (h0 : 0 ≤ n) (h1 : n ≤ 18446744073709551615) :
 a00 prog B0j #[.int .u64 n] V fun v V' => ∃ r : Sl, v = r.v ∧ e00 V' r n.toNat := by
 refine E0h n V _ fun b V1 hle _ hb => ?_
 obtain ⟨m, rfl⟩ : ∃ m : Nat, n = m := ⟨n.toNat, by omega⟩
 rw [fd32, u32n, u32n, Nat.mod_eq_of_lt (show m / 4294967296 < 4294967296 by omega)] at hb
 have hw : z00 V1 (Sl.mk (some (Addr.mk b 0 none)) 2 2) [m % 4294967296, m / 4294967296] :=
  z00.of_block (by rw [hb]; rfl) rfl (by omega) (by intro d hd; simp at hd; omega)
 refine (X01 hw (by simp)).mono fun v V' _ ⟨r, hv, hr⟩ => ⟨r, hv, _, rfl, ?_⟩
 have : wval [m % 4294967296, m / 4294967296] = (m : Int).toNat := by simp [wval]; omega
 rw [this] at hr; exact hr
theorem S07 {V : View} {s t : Sl} {a b : Nat} (hs : e00 V s a) (ht : e00 V t b) (hb : wn a ≤ 2 ^ 50) :
 a00 prog l0h #[s.v, t.v] V fun v _ => v = .int .i64 (if a < b then -1 else if a = b then 0 else 1) := by
 have h1 := hs.len
 have h2 := ht.len
 simp only [wn] at hb
 refine j0f s t V _ (fun _ x _ => -1 ≤ x.t5 ∧ x.t5 < s.len ∧ (dig a).drop (x.t5 + 1).toNat = (dig b).drop (x.t5 + 1).toNat) (fun _ x _ => (x.t5 + 1).toNat) ⟨fun hne => ⟨fun hlt => ?_, fun hlt => ?_⟩, fun he => ⟨?_, ?_⟩⟩
 · have := i09 (a := a) (b := b) (by simpa [h1, h2] using hlt)
   simp [this]
 · have hne : ¬ (s.len : Int) = t.len := by simpa using hne
   have hlt : ¬ s.len < t.len := by simpa using hlt
   have := i09 (a := b) (b := a) (by omega)
   rw [if_neg (by omega), if_neg (by omega)]
 · have he : (s.len : Int) = t.len := by simpa using he
   rw [i64w (by omega) (by omega)]
   refine ⟨?_, ?_, ?_⟩
   · show (-1 : Int) ≤ s.len - 1; omega
   · show (s.len : Int) - 1 < s.len; omega
   · rw [List.drop_eq_nil_of_le, List.drop_eq_nil_of_le] <;> simp <;> omega
 · have he : (s.len : Int) = t.len := by simpa using he
   rintro ⟨i⟩ V1 hle ⟨i0, i1, hd⟩
   simp only at i0 i1 hd ⊢
   refine ⟨fun hp => ?_, fun hp => ?_⟩
   · simp only [ge_iff_le, decide_eq_true_eq] at hp
     refine ⟨⟨by omega, by omega, hs.isSome (by omega)⟩, _, (hs.le hle).get (by omega) (by omega), ⟨by omega, by omega, ht.isSome (by omega)⟩, _, (ht.le hle).get (by omega) (by omega), fun hne =>
      ⟨⟨by omega, by omega, hs.isSome (by omega)⟩, _, (hs.le hle).get (by omega) (by omega), ⟨by omega, by omega, ht.isSome (by omega)⟩, _, (ht.le hle).get (by omega) (by omega), fun hlt => ?_, fun hge => ?_⟩, fun heq => ?_⟩
     · have hlt : (dig a).getD i.toNat 0 < (dig b).getD i.toNat 0 := by simpa using hlt
       have := j09 (q02 a) (by omega) (i := i.toNat) (by omega) (by rw [show i.toNat + 1 = (i + 1).toNat by omega]; exact hd) hlt
       rw [n00, n00] at this
       simp [this]
     · have hne : ¬ (dig a).getD i.toNat 0 = (dig b).getD i.toNat 0 := by
         intro e; rw [e] at hne; simp at hne
       have hge : ¬ (dig a).getD i.toNat 0 < (dig b).getD i.toNat 0 := by simpa using hge
       have := j09 (q02 b) (by omega) (i := i.toNat) (by omega) (by rw [show i.toNat + 1 = (i + 1).toNat by omega]; exact hd.symm) (by omega : (dig b).getD i.toNat 0 < (dig a).getD i.toNat 0)
       rw [n00, n00] at this
       rw [if_neg (by omega), if_neg (by omega)]
     · have heq : (((dig a).getD i.toNat 0 : Nat) : Int) = (((dig b).getD i.toNat 0 : Nat) : Int) := by simpa using heq
       rw [i64w (by omega) (by omega)]
       refine ⟨⟨by show (-1 : Int) ≤ i - 1; omega, by show i - 1 < (s.len : Int); omega, ?_⟩, by show (i - 1 + 1).toNat < (i + 1).toNat; omega⟩
       have e : (i - 1 + 1).toNat = i.toNat := by omega
       show (dig a).drop (i - 1 + 1).toNat = (dig b).drop (i - 1 + 1).toNat
       rw [e, List.drop_eq_getElem_cons (by omega : i.toNat < (dig a).length), List.drop_eq_getElem_cons (by omega : i.toNat < (dig b).length)]
       have e2 : i.toNat + 1 = (i + 1).toNat := by omega
       rw [e2, hd]
       congr 1
       simp only [List.getD, List.getElem?_eq_getElem (by omega : i.toNat < (dig a).length), List.getElem?_eq_getElem (by omega : i.toNat < (dig b).length), Option.getD_some] at heq
       omega
   · simp only [ge_iff_le, decide_eq_false_iff_not] at hp
     have e : (i + 1).toNat = 0 := by omega
     rw [e] at hd
     have := L0r (by simpa using hd)
     subst this
     simp
theorem Q0c {V : View} {s t : Sl} {a b : Nat} (hs : e00 V s a) (ht : e00 V t b) (ha : wn a ≤ 2 ^ 45) (hb : wn b ≤ 2 ^ 45) :
 a00 prog j0h #[s.v, t.v] V fun v V' => ∃ r : Sl, v = r.v ∧ e00 V' r (a + b) := by
 refine k0f s t V _ (fun _ x V' => ∃ a' b', e00 V' x.t0 a' ∧ e00 V' x.t1 b' ∧ a' + b' = a + b ∧ wn a' ≤ 2 ^ 45 ∧ x.t1.len ≤ x.t0.len)
  (fun c x V' => ∃ a' b' l k, e00 V' c.t0 a' ∧ e00 V' c.t1 b' ∧ a' + b' = a + b ∧ c.t1.len ≤ c.t0.len ∧ x.o19 = wv l ∧ WB l ∧ l.length = c.t0.len + 1 ∧ x.t6 = (k : Nat) ∧ k ≤ 1 ∧ 0 ≤ x.t7 ∧ x.t7 ≤ c.t0.len ∧
    wval (l.take x.t7.toNat) + k * 4294967296 ^ x.t7.toNat = wval ((dig a').take x.t7.toNat) + wval ((dig b').take x.t7.toNat))
  (fun c x _ => (c.t0.len - x.t7).toNat) ⟨⟨fun h => ⟨b, a, ht, hs, by omega, hb, ?_⟩, fun h => ⟨a, b, hs, ht, rfl, ha, ?_⟩⟩, ?_⟩
 · have : s.len < t.len := by simpa using h
   exact Nat.le_of_lt this
 · have : ¬ s.len < t.len := by simpa using h
   exact Nat.le_of_not_lt this
 rintro ⟨x, y⟩ V1 hle ⟨a', b', hx, hy, hab, hwa, hlen⟩
 simp only at hx hy hlen ⊢
 have hxl := hx.len
 have hyl := hy.len
 simp only [wn] at hwa
 rw [i64w (n := (x.len : Int) + 1) (by omega) (by omega)]
 refine ⟨⟨by omega, by omega, by omega, by omega⟩, ⟨a', b', List.replicate (x.len + 1) 0, 0, hx, hy, hab, hlen, ?_, WB.zeros _, by simp, rfl, by omega, Int.le_refl _, by show (0 : Int) ≤ x.len; omega, by simp [wval]⟩, ?_⟩
 · show (List.replicate (Int.toNat ((x.len : Int) + 1)) [Value.int .u32 0]).flatten = _
   rw [show Int.toNat ((x.len : Int) + 1) = x.len + 1 by omega, B02]
 rintro ⟨k, i, o⟩ V2 hle2 ⟨a2, b2, l, k', hx2, hy2, hab2, _, ho, hwb, hl, hk, hk1, hi0, hi1, hval⟩
 simp only at ho hk hi0 hi1 hval hx2 hy2 hl ⊢
 obtain rfl := hx2.inj (hx.le hle2)
 obtain rfl := hy2.inj (hy.le hle2)
 subst hk
 refine ⟨fun hp => ?_, fun hp => ?_⟩
 · simp only [decide_eq_true_eq] at hp
   -- one more word, whatever stands there in the shorter one
   have step : ∀ (z : Nat), z = (dig a2).getD i.toNat 0 + (dig b2).getD i.toNat 0 + k' → z < 8589934592 →
    (∃ a' b' l k, e00 V2 x a' ∧ e00 V2 y b' ∧ a' + b' = a + b ∧ y.len ≤ x.len ∧ List.set o (0 + Int.toNat i * 1) (.int .u32 ((z % 4294967296 : Nat) : Int)) = wv l ∧ WB l ∧ l.length = x.len + 1 ∧ ((z / 4294967296 : Nat) : Int) = (k : Nat) ∧ k ≤ 1 ∧ 0 ≤ i + 1 ∧ i + 1 ≤ x.len ∧
      wval (l.take (i + 1).toNat) + k * 4294967296 ^ (i + 1).toNat = wval ((dig a').take (i + 1).toNat) + wval ((dig b').take (i + 1).toNat)) := by
    intro z hz hlt
    refine ⟨a2, b2, l.set i.toNat (z % 4294967296), z / 4294967296, hx2, hy2, hab, hlen, ?_, hwb.set (by omega), by simpa using hl, rfl, by omega, by omega, by omega, ?_⟩
    · rw [ho, show 0 + Int.toNat i * 1 = i.toNat by omega, D02]
    · rw [show (i + 1).toNat = i.toNat + 1 by omega, H03 (by omega), f00, f00, Nat.pow_succ]
      have hrc : z % 4294967296 + z / 4294967296 * 4294967296 = (dig a2).getD i.toNat 0 + (dig b2).getD i.toNat 0 + k' := by omega
      have := congrArg (· * 4294967296 ^ i.toNat) hrc
      simp only [Nat.add_mul] at this
      grind
   have w1 := hx2.getD_lt i.toNat
   have w2 := hy2.getD_lt i.toNat
   rw [i64w (n := i + 1) (by omega) (by omega)]
   refine ⟨⟨by omega, by omega, hx.isSome (by omega)⟩, _, hx2.get (by omega) (by omega), fun hp2 => ?_, fun hp2 => ?_⟩
   · simp only [decide_eq_true_eq] at hp2
     refine ⟨⟨by omega, by omega, hy.isSome (by omega)⟩, _, hy2.get (by omega) (by omega), ⟨by omega, by omega⟩, by rw [ho, g00]; omega, ?_⟩
     rw [u64n (z := (dig a2).getD i.toNat 0) (by omega), u64n (z := (dig b2).getD i.toNat 0) (by omega), ← Int.natCast_add, u64n (by omega), ← Int.natCast_add, u64n (by omega), fd32, u32n]
     have g := step ((dig a2).getD i.toNat 0 + k' + (dig b2).getD i.toNat 0) (by omega) (by omega)
     exact ⟨g, by show ((x.len : Int) - (i + 1)).toNat < ((x.len : Int) - i).toNat; omega⟩
   · simp only [decide_eq_false_iff_not] at hp2
     have w2 : (dig b2).getD i.toNat 0 = 0 := by simp only [List.getD]; rw [List.getElem?_eq_none (by omega)]; rfl
     refine ⟨⟨by omega, by omega⟩, by rw [ho, g00]; omega, ?_⟩
     rw [u64n (z := (dig a2).getD i.toNat 0) (by omega), ← Int.natCast_add, u64n (by omega), fd32, u32n]
     have g := step ((dig a2).getD i.toNat 0 + k') (by omega) (by omega)
     exact ⟨g, by show ((x.len : Int) - (i + 1)).toNat < ((x.len : Int) - i).toNat; omega⟩
 · simp only [decide_eq_false_iff_not] at hp
   refine ⟨⟨by omega, by omega⟩, by rw [ho, g00]; omega, fun b1 V5 hle5 hb => ?_⟩
   have hi : i.toNat = x.len := by omega
   have ek : u32.wrap (k' : Int) = (k' : Int) := u32w (by omega) (by omega)
   have hw : z00 V5 (Sl.mk (some (Addr.mk b1 0 none)) (Int.toNat ((x.len : Int) + 1)) (Int.toNat ((x.len : Int) + 1))) (l.set x.len k') :=
    z00.of_block (by rw [hb, ho, show 0 + Int.toNat (x.len : Int) * 1 = x.len by omega, ek, D02]) (by simp; omega) (Nat.le_refl _) (hwb.set (by omega))
   refine (X01 hw (by simp; omega)).mono fun v V6 _ ⟨r, hv, hr⟩ => ⟨r, hv, r, rfl, ?_⟩
   have e : wval (l.set x.len k') = a + b := by
    have h1 : (l.set x.len k') = (l.set x.len k').take (x.len + 1) := by rw [List.take_of_length_le]; simp; omega
    rw [h1, H03 (by omega)]
    rw [hi, i00 (l := dig a2) (by omega), i00 (l := dig b2) (by omega), n00, n00] at hval
    omega
   rw [e] at hr; exact hr
theorem X0v {A B k : Nat} (hA : A < 4294967296) (hB : B < 4294967296) (hk : k ≤ 1) :
 ∃ r c : Nat, Int.fdiv (u64.wrap ((u64.wrap ((A : Int) - (k : Int))) - (B : Int))) (2 ^ (min (Int.toNat 63) (u64.bits))) = (c : Int) ∧
  u32.wrap (u64.wrap ((u64.wrap ((A : Int) - (k : Int))) - (B : Int))) = (r : Int) ∧ r + B + k = A + c * 4294967296 ∧ r < 4294967296 ∧ c ≤ 1 := by
 have e : u64.wrap ((u64.wrap ((A : Int) - (k : Int))) - (B : Int)) = (((A : Int) - k - B) % 18446744073709551616) := by
  rw [u64m, u64m]; omega
 rw [e]
 obtain ⟨m, hm⟩ : ∃ m : Nat, ((A : Int) - k - B) % 18446744073709551616 = m := ⟨(((A : Int) - k - B) % 18446744073709551616).toNat, by omega⟩
 rw [hm, fd63, u32n]
 exact ⟨m % 4294967296, m / 9223372036854775808, rfl, rfl, by omega, by omega, by omega⟩
theorem T07 {V : View} {s t : Sl} {a b : Nat} (hs : e00 V s a) (ht : e00 V t b) (ha : wn a ≤ 2 ^ 45) (hba : b ≤ a) :
 a00 prog m0h #[s.v, t.v] V fun v V' => ∃ r : Sl, v = r.v ∧ e00 V' r (a - b) := by
 have hsl := hs.len
 have htl := ht.len
 have hwn := K04 hba
 simp only [wn] at ha hwn
 refine l0f s t V _
  (fun _ x V' => ∃ l k : _, x.o11 = wv l ∧ WB l ∧ l.length = s.len ∧ x.t6 = (k : Nat) ∧ k ≤ 1 ∧ 0 ≤ x.t7 ∧ x.t7 ≤ s.len ∧
    wval (l.take x.t7.toNat) + wval ((dig b).take x.t7.toNat) = wval ((dig a).take x.t7.toNat) + k * 4294967296 ^ x.t7.toNat)
  (fun _ x _ => (s.len - x.t7).toNat) ⟨⟨by omega, by omega, by omega, by omega⟩, ⟨List.replicate s.len 0, 0, ?_, WB.zeros _, by simp, rfl, by omega, Int.le_refl _, by show (0 : Int) ≤ s.len; omega, by simp [wval]⟩, ?_⟩
 · show (List.replicate (Int.toNat (s.len : Int)) [Value.int .u32 0]).flatten = _
   rw [Int.toNat_natCast, B02]
 rintro ⟨k, i, o⟩ V2 hle2 ⟨l, k', ho, hwb, hl, hk, hk1, hi0, hi1, hval⟩
 simp only at ho hk hi0 hi1 hval hl ⊢
 subst hk
 have hx2 := hs.le hle2
 have hy2 := ht.le hle2
 refine ⟨fun hp => ?_, fun hp => ?_⟩
 · simp only [decide_eq_true_eq] at hp
   have step : ∀ (r c : Nat), r + (dig b).getD i.toNat 0 + k' = (dig a).getD i.toNat 0 + c * 4294967296 → r < 4294967296 → c ≤ 1 →
    (∃ l k : _, List.set o (0 + Int.toNat i * 1) (.int .u32 (r : Nat)) = wv l ∧ WB l ∧ l.length = s.len ∧ (c : Int) = (k : Nat) ∧ k ≤ 1 ∧ 0 ≤ i + 1 ∧ i + 1 ≤ s.len ∧
      wval (l.take (i + 1).toNat) + wval ((dig b).take (i + 1).toNat) = wval ((dig a).take (i + 1).toNat) + k * 4294967296 ^ (i + 1).toNat) := by
    intro r c hrc hr hc
    refine ⟨l.set i.toNat r, c, ?_, hwb.set hr, by simpa using hl, rfl, hc, by omega, by omega, ?_⟩
    · rw [ho, show 0 + Int.toNat i * 1 = i.toNat by omega, D02]
    · rw [show (i + 1).toNat = i.toNat + 1 by omega, H03 (by omega), f00, f00, Nat.pow_succ]
      have := congrArg (· * 4294967296 ^ i.toNat) hrc
      simp only [Nat.add_mul] at this
      grind
   have w1 := hx2.getD_lt i.toNat
   have w2 := hy2.getD_lt i.toNat
   rw [i64w (n := i + 1) (by omega) (by omega)]
   refine ⟨⟨by omega, by omega, hs.isSome (by omega)⟩, _, hx2.get (by omega) (by omega), fun hp2 => ?_, fun hp2 => ?_⟩
   · simp only [decide_eq_true_eq] at hp2
     refine ⟨⟨by omega, by omega, ht.isSome (by omega)⟩, _, hy2.get (by omega) (by omega), ⟨by omega, by omega⟩, by rw [ho, g00]; omega, ?_⟩
     obtain ⟨r, c, e1, e2, e3, e4, e5⟩ := X0v w1 w2 hk1
     rw [u64n (z := (dig a).getD i.toNat 0) (by omega), u64n (z := (dig b).getD i.toNat 0) (by omega), e1, e2]
     exact ⟨step r c e3 e4 e5, by show ((s.len : Int) - (i + 1)).toNat < ((s.len : Int) - i).toNat; omega⟩
   · simp only [decide_eq_false_iff_not] at hp2
     have w2 : (dig b).getD i.toNat 0 = 0 := by simp only [List.getD]; rw [List.getElem?_eq_none (by omega)]; rfl
     refine ⟨⟨by omega, by omega⟩, by rw [ho, g00]; omega, ?_⟩
     obtain ⟨r, c, e1, e2, e3, e4, e5⟩ := X0v w1 (show 0 < 4294967296 by omega) hk1
     have e0 : u64.wrap ((u64.wrap ((((dig a).getD i.toNat 0 : Nat) : Int) - (k' : Int))) - ((0 : Nat) : Int)) = u64.wrap ((((dig a).getD i.toNat 0 : Nat) : Int) - (k' : Int)) := by
      rw [u64m, u64m]; omega
     rw [e0] at e1 e2
     rw [u64n (z := (dig a).getD i.toNat 0) (by omega), e1, e2]
     exact ⟨step r c (by omega) e4 e5, by show ((s.len : Int) - (i + 1)).toNat < ((s.len : Int) - i).toNat; omega⟩
 · simp only [decide_eq_false_iff_not] at hp
   intro b1 V5 hle5 hb
   have hi : i.toNat = s.len := by omega
   have hw : z00 V5 (Sl.mk (some (Addr.mk b1 0 none)) (Int.toNat (s.len : Int)) (Int.toNat (s.len : Int))) l :=
    z00.of_block (by rw [hb, ho]) (by omega) (Nat.le_refl _) hwb
   refine (X01 hw (by omega)).mono fun v V6 _ ⟨r, hv, hr⟩ => ⟨r, hv, r, rfl, ?_⟩
   rw [hi, i00 (l := dig a) (by omega), i00 (l := dig b) (by omega), i00 (by omega), n00, n00] at hval
   have h3 := J0b hwb
   have e : wval l = a - b := by
    rcases Nat.eq_zero_or_pos k' with h0 | h0
    · subst h0; omega
    · have : k' = 1 := by omega
      subst this
      rw [hl] at h3
      omega
   rw [e] at hr; exact hr
theorem w0i {a b : Nat} (ha : a < 4294967296) (hb : b < 4294967296) : a * b ≤ 18446744065119617025 :=
 Nat.le_trans (Nat.mul_le_mul (Nat.le_of_lt_succ ha) (Nat.le_of_lt_succ hb)) (by decide)
theorem L05 {V : View} {s t : Sl} {a b : Nat} (hs : e00 V s a) (ht : e00 V t b) (ha : wn a ≤ 2 ^ 44) (hb : wn b ≤ 2 ^ 44) :
 a00 prog g0h #[s.v, t.v] V fun v V' => ∃ r : Sl, v = r.v ∧ e00 V' r (a * b) := by
 have hsl := hs.len
 have htl := ht.len
 simp only [wn] at ha hb
 refine m0f s t V _
  (fun _ x _ => ∃ i l, x = P00.mk (i : Nat) (wv l) ∧ i ≤ s.len ∧ WB l ∧ l.length = s.len + t.len ∧ seg l 0 (i + t.len) = wval ((dig a).take i) * b)
  (fun _ x _ => (s.len - x.t6).toNat)
  (fun c x _ => ∃ i k cr l, c = F00.mk (i : Nat) ∧ i < s.len ∧ x = Q00.mk (cr : Nat) (k : Nat) (wv l) ∧ WB l ∧ l.length = s.len + t.len ∧ k ≤ t.len ∧ cr < 4294967296 ∧
    seg l 0 (i + t.len) + cr * 4294967296 ^ (i + k) = wval ((dig a).take i) * b + (dig a).getD i 0 * wval ((dig b).take k) * 4294967296 ^ i)
  (fun _ x _ => (t.len - x.t8).toNat) ?_
 rw [i64w (n := (s.len : Int) + t.len) (by omega) (by omega)]
 have hn : Int.toNat ((s.len : Int) + t.len) = s.len + t.len := by omega
 rw [hn]
 refine ⟨⟨by omega, by omega, by omega, by omega⟩, ⟨0, List.replicate (s.len + t.len) 0, ?_, by omega, WB.zeros _, by simp, ?_⟩, ?_⟩
 · rw [B02]; rfl
 · rw [M0h]; simp [wval]
 rintro _ V2 hle2 ⟨i, l, rfl, hi, hwb, hl, hval⟩
 refine ⟨fun hp => ?_, fun hp b1 V4 hle4 hb1 => ?_⟩
 · simp only [decide_eq_true_eq] at hp
   refine ⟨⟨i, 0, 0, l, rfl, by omega, rfl, hwb, hl, by omega, by omega, by simp [hval, wval]⟩, ?_⟩
   rintro _ V3 hle3 ⟨i', k, cr, l', hc, hi', rfl, hwb', hl', hk, hcr, hval'⟩
   obtain rfl : i = i' := by simp only [F00.mk.injEq] at hc; omega
   have hbd := (q02 a).getD i
   simp only [Int.toNat_natCast]
   refine ⟨fun hq => ?_, fun hq => ?_⟩
   · simp only [decide_eq_true_eq] at hq
     have hbk := (q02 b).getD k
     have hwl := hwb'.getD (i + k)
     have hm := w0i hbd hbk
     have hik : i + k < l'.length := by omega
     rw [i64w (n := (i : Int) + k) (by omega) (by omega), i64w (n := (k : Int) + 1) (by omega) (by omega)]
     have e1 : Int.toNat ((i : Int) + k) = i + k := by omega
     rw [e1]
     refine ⟨⟨by omega, hp, hs.isSome (by omega)⟩, _, (hs.le (View.le_trans hle2 hle3)).get (by show (0 : Int) ≤ (i : Nat); omega) hp, ⟨by omega, hq, ht.isSome (by omega)⟩, _, (ht.le (View.le_trans hle2 hle3)).get (by show (0 : Int) ≤ (k : Nat); omega) hq, ⟨by omega, by omega⟩, ((l'.getD (i + k) 0 : Nat) : Int), ?_, ⟨by omega, by omega⟩, ?_, ?_⟩
     · rw [show 0 + (i + k) * 1 = i + k by omega]; exact U04 hik
     · rw [g00]; omega
     simp only [Int.toNat_natCast]
     rw [u64n (z := (dig a).getD i 0) (by omega), u64n (z := (dig b).getD k 0) (by omega), u64n (z := l'.getD (i + k) 0) (by omega), ← Int.natCast_mul, u64n (z := (dig a).getD i 0 * (dig b).getD k 0) (by omega), ← Int.natCast_add,
      u64n (z := (dig a).getD i 0 * (dig b).getD k 0 + l'.getD (i + k) 0) (by omega), ← Int.natCast_add, u64n (by omega), fd32, u32n, show 0 + (i + k) * 1 = i + k by omega]
     generalize hm' : (dig a).getD i 0 * (dig b).getD k 0 = m at *
     generalize hd : m + l'.getD (i + k) 0 + cr = z
     rw [D02]
     refine ⟨⟨i, k + 1, z / 4294967296, l'.set (i + k) (z % 4294967296), rfl, by omega, by simp, hwb'.set (by omega), by simpa using hl', by omega, by omega, ?_⟩, by show ((t.len : Int) - ((k : Int) + 1)).toNat < ((t.len : Int) - k).toNat; omega⟩
     have h1 := L0h (l := l') (p := i + k) (d := z % 4294967296) (j := 0) (k := i + t.len) (by omega) (by omega) hik
     rw [Nat.sub_zero] at h1
     rw [f00, ← Nat.add_assoc, Nat.pow_succ]
     have h2 : z % 4294967296 + z / 4294967296 * 4294967296 = z := by omega
     have h3 := congrArg (· * 4294967296 ^ (i + k)) h2
     rw [← hd] at h3
     simp only [Nat.add_mul] at h3
     have h4 : (dig a).getD i 0 * ((dig b).getD k 0 * 4294967296 ^ k) * 4294967296 ^ i = m * 4294967296 ^ (i + k) := by rw [← hm', Nat.pow_add]; grind
     rw [← hd] at h1
     rw [Nat.mul_add, Nat.add_mul, h4, ← hd]
     have h5 : ∀ q, q * (4294967296 ^ (i + k) * 4294967296) = q * 4294967296 * 4294967296 ^ (i + k) := by intro q; grind
     rw [h5]
     omega
   · simp only [decide_eq_false_iff_not] at hq
     have hkt : k = t.len := by omega
     subst hkt
     rw [i64w (n := (i : Int) + t.len) (by omega) (by omega), i64w (n := (i : Int) + 1) (by omega) (by omega)]
     have e1 : Int.toNat ((i : Int) + t.len) = i + t.len := by omega
     rw [e1, show 0 + (i + t.len) * 1 = i + t.len by omega, u32w (by omega) (by omega), D02, g00]
     refine ⟨⟨by omega, by omega⟩, by omega, ⟨i + 1, l'.set (i + t.len) cr, by simp, by omega, hwb'.set hcr, by simpa using hl', ?_⟩, by show ((s.len : Int) - ((i : Int) + 1)).toNat < ((s.len : Int) - i).toNat; omega⟩
     rw [show i + 1 + t.len = i + t.len + 1 by omega, c01 (by omega) (by omega), hval', f00, i00 (l := dig b) (by omega), n00]
     grind
 · simp only [decide_eq_false_iff_not] at hp
   have hi' : i = s.len := by omega
   subst hi'
   rw [q04 (by omega), i00 (l := dig a) (by omega), n00] at hval
   have hw : z00 V4 (Sl.mk (some (Addr.mk b1 0 none)) (s.len + t.len) (s.len + t.len)) l := z00.of_block hb1 (by omega) (Nat.le_refl _) hwb
   refine (X01 hw (by omega)).mono fun v V6 _ ⟨r, hv, hr⟩ => ⟨r, hv, r, rfl, ?_⟩
   rw [hval] at hr; exact hr

theorem m0b {V : View} {s : Sl} {a d : Nat} (hs : e00 V s a) (ha : wn a ≤ 2 ^ 45) (hd0 : 0 < d) (hd : d < 4294967296) :
 a00 prog F0d #[s.v, .int .u32 (d : Int)] V fun v V' => ∃ r : Sl, v = .tuple #[r.v, .int .u32 ((a % d : Nat) : Int)] ∧ e00 V' r (a / d) := by
 have hsl := hs.len
 simp only [wn] at ha
 refine N0c s d V _
  (fun _ x _ => ∃ (j k rest : Nat) (l : List Nat), x = w00.mk (rest : Nat) ((j : Int) - 1) (wv l) ∧ j + k = s.len ∧ WB l ∧ l.length = s.len ∧ rest < d ∧ seg (dig a) j k = seg l j k * d + rest)
  (fun _ x _ => (x.t8 + 1).toNat) ⟨⟨by omega, by omega, by omega, by omega⟩, ⟨s.len, 0, 0, List.replicate s.len 0, ?_, by omega, WB.zeros _, by simp, hd0, by simp [P02]⟩, ?_⟩
 · rw [i64w (by omega) (by omega), Int.toNat_natCast, B02]; rfl
 rintro _ V1 hle ⟨j, k, rest, l, rfl, hjk, hwb, hl, hr, hval⟩
 refine ⟨fun hp => ?_, fun hp b1 V3 hle3 hb1 => ?_⟩
 · simp only [ge_iff_le, decide_eq_true_eq] at hp
   obtain ⟨i, rfl⟩ : ∃ i, j = i + 1 := ⟨j - 1, by omega⟩
   simp only [show (((i + 1 : Nat) : Int) - 1) = (i : Nat) by omega, Int.toNat_natCast]
   have hw := (q02 a).getD i
   have h1 : (rest * 4294967296 + (dig a).getD i 0) / d < 4294967296 := by
    rw [Nat.div_lt_iff_lt_mul (by omega)]
    have := Nat.mul_le_mul_right 4294967296 (Nat.succ_le_of_lt hr)
    rw [Nat.succ_mul] at this
    omega
   have h2 : (rest * 4294967296 + (dig a).getD i 0) % d < d := Nat.mod_lt _ (by omega)
   have e : (2 : Int) ^ (min (Int.toNat 32) (u64.bits)) = 4294967296 := by decide
   refine ⟨⟨by omega, by omega, hs.isSome (by omega)⟩, _, (hs.le hle).get (i := (i : Nat)) (by omega) (by omega), ?_⟩
   simp only [Int.toNat_natCast]
   rw [u64n (z := d) (by omega), u64n (z := (dig a).getD i 0) (by omega), e, show (rest : Int) * 4294967296 = ((rest * 4294967296 : Nat) : Int) by omega, u64n (z := rest * 4294967296) (by omega), or64 hw (by omega),
    u64n (z := rest * 4294967296 + (dig a).getD i 0) (by omega), ← Int.ofNat_tdiv, ← Int.ofNat_tmod, u64n (by omega), u32n, Nat.mod_eq_of_lt h1, i64w (by omega) (by omega), show 0 + i * 1 = i by omega, D02]
   refine ⟨by omega, ⟨by omega, by omega⟩, by rw [g00]; omega, by omega, ⟨i, k + 1, _, _, rfl, by omega, hwb.set h1, by simpa using hl, Nat.mod_lt _ hd0, ?_⟩, by show ((i : Int) - 1 + 1).toNat < ((i : Int) + 1).toNat; omega⟩
   rw [Nat.add_comm k 1, L04, L04 _ i 1 k, hval, X04 (j := i + 1) (by omega), Z00, Z00, P02, P02, Nat.add_zero, n03, if_pos ⟨rfl, by omega⟩]
   have := Nat.div_add_mod (rest * 4294967296 + (dig a).getD i 0) d
   generalize (rest * 4294967296 + (dig a).getD i 0) / d = q at *
   generalize (rest * 4294967296 + (dig a).getD i 0) % d = m at *
   simp only [Nat.pow_zero, Nat.mul_one, Nat.pow_one, Nat.zero_add, Nat.mul_add, Nat.add_mul]
   have e2 : 4294967296 * (seg l (i + 1) k * d) = 4294967296 * seg l (i + 1) k * d := by rw [Nat.mul_assoc]
   have e3 : q * d = d * q := Nat.mul_comm _ _
   omega
 · simp only [ge_iff_le, decide_eq_false_iff_not] at hp
   have hj : j = 0 := by omega
   subst hj
   have hk : k = s.len := by omega
   subst hk
   have hw : z00 V3 (Sl.mk (some (Addr.mk b1 0 none)) (Int.toNat (s.len : Int)) (Int.toNat (s.len : Int))) l := z00.of_block hb1 (by omega) (Nat.le_refl _) hwb
   rw [q04 (by omega), q04 (by omega), n00] at hval
   have e1 : a / d = wval l := by rw [hval, Nat.mul_comm, Nat.mul_add_div hd0, Nat.div_eq_of_lt hr]; omega
   have e2 : a % d = rest := by rw [hval, Nat.mul_comm, Nat.mul_add_mod, Nat.mod_eq_of_lt hr]
   refine (X01 hw (by omega)).mono fun v V6 _ ⟨r, hv, hr⟩ => ⟨r, hv, r, ?_, ?_⟩
   · rw [e2, u32n, Nat.mod_eq_of_lt (by omega)]
   · rw [e1]; exact hr
theorem T0u {x : Nat} (h : x ≠ 0) : bl x = bl (x / 2) + 1 := by
 by_cases h1 : x = 1
 · subst h1; decide
 · have := i0n (m := x) 1 (by omega)
   simpa using this
theorem b0c {V : View} {s : Sl} {a : Nat} (hs : e00 V s a) (ha : wn a ≤ 2 ^ 45) :
 a00 prog L0e #[s.v] V fun v _ => v = .int .i64 (bl a : Nat) := by
 have hsl := hs.len
 have hwn : wn a = s.len := by simp only [wn]; exact hsl.symm
 refine N0d s V _ (fun _ x _ => ∃ k y : Nat, x = A00.mk (k : Nat) (y : Nat) ∧ k + bl y = bl ((dig a).getD (wn a - 1) 0) ∧ k ≤ 32) (fun _ x _ => x.t4.toNat) ⟨fun h => ?_, fun h => ?_⟩
 · have h : (s.len : Int) = 0 := by simpa using h
   have : a = 0 := F02.1 (by omega)
   subst this; rfl
 · have h : ¬ (s.len : Int) = 0 := by simpa using h
   have ha0 : a ≠ 0 := by rintro rfl; rw [J04] at hwn; omega
   rw [i64w (n := (s.len : Int) - 1) (by omega) (by omega)]
   have e : Int.toNat ((s.len : Int) - 1) = wn a - 1 := by omega
   have h2 := M0u ha0
   have h3 : bl ((dig a).getD (wn a - 1) 0) ≤ 32 := by
    have h3 := (d05 ha0).2.2
    have := F0a h3
    have := (q02 a).getD (wn a - 1)
    have := (Nat.pow_lt_pow_iff_right (a := 2) (n := bl ((dig a).getD (wn a - 1) 0) - 1) (m := 32) (by omega)).1 (by omega)
    omega
   refine ⟨⟨by omega, by omega, hs.isSome (by omega)⟩, _, hs.get (by omega) (by omega), ⟨0, _, rfl, by rw [e]; omega, by omega⟩, ?_⟩
   rintro _ V1 l1 ⟨k, y, rfl, hk, hk2⟩
   refine ⟨fun hp => ?_, fun hp => ?_⟩
   · simp only [gt_iff_lt, decide_eq_true_eq] at hp
     have hb := T0u (x := y) (by omega)
     have e1 : Int.fdiv (y : Int) (2 ^ (min (Int.toNat 1) (u32.bits))) = ((y / 2 : Nat) : Int) := by
      have e2 : (2 : Int) ^ (min (Int.toNat 1) (u32.bits)) = 2 := by decide
      rw [e2, Int.fdiv_eq_ediv_of_nonneg _ (by omega)]; omega
     simp only []
     rw [e1, i64w (by omega) (by omega)]
     exact ⟨⟨k + 1, y / 2, rfl, by omega, by omega⟩, by show ((y / 2 : Nat) : Int).toNat < (y : Int).toNat; omega⟩
   · simp only [gt_iff_lt, decide_eq_false_iff_not] at hp
     have hy : y = 0 := by omega
     subst hy
     rw [Y04] at hk
     simp only []
     rw [i64w (n := 32 * _) (by omega) (by omega), i64w (by omega) (by omega)]
     congr 1
     omega
theorem m04 {V : View} {s : Sl} {a n : Nat} (hs : e00 V s a) (ha : wn a ≤ 2 ^ 44) (hn : n ≤ 2 ^ 44) :
 a00 prog t0a #[s.v, .int .i64 (n : Int)] V fun v V' => ∃ r : Sl, v = r.v ∧ e00 V' r (a * 2 ^ n) := by
 have hsl := hs.len
 have hs0 : s.len = 0 → a = 0 := fun h => F02.1 (by simp only [wn]; omega)
 simp only [wn] at ha
 obtain ⟨W, hW⟩ : ∃ W, W = n / 32 := ⟨_, rfl⟩
 obtain ⟨R, hR⟩ : ∃ R, R = 2 ^ (n % 32) := ⟨_, rfl⟩
 have hR1 : R ≤ 2147483648 := by rw [hR]; exact Nat.pow_le_pow_right (by omega) (show n % 32 ≤ 31 by omega)
 obtain ⟨Q, hQ⟩ : ∃ Q, R * Q = 4294967296 := ⟨2 ^ (32 - n % 32), by rw [hR, ← Nat.pow_add, show n % 32 + (32 - n % 32) = 32 by omega]⟩
 refine g0f s n V _
  (fun _ x _ => ∃ (i : Nat) (l : List Nat), x = L00.mk (i : Nat) (wv l) ∧ i ≤ s.len ∧ WB l ∧ l.length = s.len + W + 1 ∧ seg l 0 (i + W + 1) = wval ((dig a).take i) * R * 4294967296 ^ W ∧ l.getD (i + W) 0 < R)
  (fun _ x _ => (s.len - x.t6).toNat)
  ⟨fun h => ⟨_, rfl, by have h : (s.len : Int) = 0 := (by simpa using h); have := hs0 (by omega); subst this; rw [Nat.zero_mul]; exact e00.zero V⟩, fun _ => ?_⟩
 rw [td32, tm32, ← hW, i64w (n := (W : Int)) (by omega) (by omega), i64w (n := (s.len : Int) + W) (by omega) (by omega), i64w (n := (s.len : Int) + W + 1) (by omega) (by omega),
  u64w (n := ((n % 32 : Nat) : Int)) (by omega) (by omega), Int.toNat_natCast, w0t (show n % 32 ≤ 64 by omega), ← hR]
 have hN : Int.toNat ((s.len : Int) + W + 1) = s.len + W + 1 := by omega
 rw [hN]
 refine ⟨⟨by omega, by omega, by omega, by omega⟩, ⟨0, List.replicate (s.len + W + 1) 0, ?_, by omega, WB.zeros _, by simp, ?_, ?_⟩, ?_⟩
 · rw [B02]; rfl
 · rw [M0h]; simp [wval]
 · have : (List.replicate (s.len + W + 1) 0).getD (0 + W) 0 = 0 := by simp only [List.getD, List.getElem?_replicate]; split <;> rfl
   rw [this, hR]; exact Nat.two_pow_pos _
 rintro _ V2 hle2 ⟨i, l, rfl, hi, hwb, hl, hval, hlt⟩
 refine ⟨fun hp => ?_, fun hp b1 V4 hle4 hb1 => ?_⟩
 · simp only [decide_eq_true_eq] at hp
   have hai := (q02 a).getD i
   have hW2 := hwb.getD (i + W)
   simp only [Int.toNat_natCast]
   rw [i64w (n := (i : Int) + W) (by omega) (by omega), i64w (n := (i : Int) + W + 1) (by omega) (by omega), i64w (n := (i : Int) + 1) (by omega) (by omega)]
   have e1 : Int.toNat ((i : Int) + W) = i + W := by omega
   have e2 : Int.toNat ((i : Int) + W + 1) = i + W + 1 := by omega
   rw [e1, e2, show 0 + (i + W) * 1 = i + W by omega, show 0 + (i + W + 1) * 1 = i + W + 1 by omega]
   refine ⟨⟨by omega, hp, hs.isSome (by omega)⟩, _, (hs.le hle2).get (i := (i : Nat)) (by omega) hp, by omega, ⟨by omega, by omega⟩, ((l.getD (i + W) 0 : Nat) : Int), U04 (by omega), ⟨by omega, by omega⟩, by rw [g00]; omega, ⟨by omega, by omega⟩, by simp only [List.length_set, g00]; omega, ?_⟩
   simp only [Int.toNat_natCast]
   generalize hA : (dig a).getD i 0 = A at *
   have hm : A * R ≤ 4294967295 * 2147483648 := Nat.mul_le_mul (by omega) hR1
   rw [u64w (n := (A : Int)) (by omega) (by omega), ← Int.natCast_mul, u64w (n := ((A * R : Nat) : Int)) (by omega) (by omega)]
   have e3 : (2 : Int) ^ (min (Int.toNat 32) (u64.bits)) = 4294967296 := by decide
   rw [e3, Int.fdiv_eq_ediv_of_nonneg _ (by omega)]
   have e4 : u32.wrap (((A * R : Nat) : Int) / 4294967296) = ((A * R / 4294967296 : Nat) : Int) := by rw [u32w (by omega) (by omega)]; omega
   have e5 : u32.wrap ((A * R : Nat) : Int) = ((A * R % 4294967296 : Nat) : Int) := by rw [u32m]; omega
   have e6 : A * R % 4294967296 = (A % Q) * R := by
    rw [← hQ, Nat.mul_comm A R, Nat.mul_mod_mul_left, Nat.mul_comm]
   have hhi : A * R / 4294967296 < R := by
    rw [Nat.div_lt_iff_lt_mul (by omega), Nat.mul_comm]
    exact Nat.mul_lt_mul_of_pos_left (by omega) (by rw [hR]; exact Nat.two_pow_pos _)
   have hlo : l.getD (i + W) 0 + A * R % 4294967296 < 4294967296 := by
    rw [e6]
    have h0 : 0 < Q := by
     rcases Nat.eq_zero_or_pos Q with h | h
     · subst h; simp at hQ
     · exact h
    have h1 : A % Q + 1 ≤ Q := Nat.mod_lt _ h0
    have h2 := Nat.mul_le_mul_right R h1
    rw [Nat.succ_mul, Nat.mul_comm Q R, hQ] at h2
    omega
   rw [e4, e5, q0v hW2 (Nat.mod_lt _ (by omega)), e6]
   have hor : (l.getD (i + W) 0 ||| A % Q * R) = l.getD (i + W) 0 + A % Q * R := by
    rw [hR] at hlt ⊢; exact K0t hlt
   rw [hor, ← e6, u32w (by omega) (by omega), D02, D02]
   refine ⟨⟨i + 1, (l.set (i + W) (l.getD (i + W) 0 + A * R % 4294967296)).set (i + W + 1) (A * R / 4294967296), rfl, by omega, (hwb.set (by omega)).set (by omega), by simpa using hl, ?_, ?_⟩, by show ((s.len : Int) - ((i : Int) + 1)).toNat < ((s.len : Int) - i).toNat; omega⟩
   · rw [show i + 1 + W + 1 = (i + W + 1) + 1 by omega, c01 (by omega) (by simp; omega)]
     have h1 := L0h (l := l) (p := i + W) (d := l.getD (i + W) 0 + A * R % 4294967296) (j := 0) (k := i + W + 1) (by omega) (by omega) (by omega)
     rw [Nat.sub_zero, hval] at h1
     rw [f00, hA, Nat.pow_succ]
     have h2 : A * R % 4294967296 + A * R / 4294967296 * 4294967296 = A * R := by omega
     have h3 := congrArg (· * 4294967296 ^ (i + W)) h2
     simp only [Nat.add_mul] at h1 h3 ⊢
     have h4 : A * 4294967296 ^ i * R * 4294967296 ^ W = A * R * 4294967296 ^ (i + W) := by rw [Nat.pow_add]; grind
     have h5 : ∀ q, q * (4294967296 ^ (i + W) * 4294967296) = q * 4294967296 * 4294967296 ^ (i + W) := by intro q; grind
     rw [h4, h5]
     omega
   · rw [n03, if_pos ⟨by omega, by simp; omega⟩]; exact hhi
 · simp only [decide_eq_false_iff_not] at hp
   have hi' : i = s.len := by omega
   subst hi'
   rw [q04 (by omega), i00 (l := dig a) (by omega), n00] at hval
   have hw : z00 V4 (Sl.mk (some (Addr.mk b1 0 none)) (s.len + W + 1) (s.len + W + 1)) l := z00.of_block hb1 (by omega) (Nat.le_refl _) hwb
   refine (X01 hw (by omega)).mono fun v V6 _ ⟨r, hv, hr⟩ => ⟨r, hv, r, rfl, ?_⟩
   rw [hval, Nat.mul_assoc, hR, hW, ← W0a] at hr; exact hr
theorem S0c {V : View} {s : Sl} {a n : Nat} (hs : e00 V s a) (ha : wn a ≤ 2 ^ 44) (hn : n ≤ 2 ^ 44) :
 a00 prog k0h #[s.v, .int .i64 (n : Int)] V fun v V' => ∃ r : Sl, v = r.v ∧ e00 V' r (a / 2 ^ n) := by
 have hsl := hs.len
 have hwn : wn a = s.len := by simp only [wn]; exact hsl.symm
 have haw := U09 a
 rw [hwn] at ha haw
 obtain ⟨W, hW⟩ : ∃ W, W = n / 32 := ⟨_, rfl⟩
 obtain ⟨R, hR⟩ : ∃ R, R = 2 ^ (n % 32) := ⟨_, rfl⟩
 have hR0 : 0 < R := by rw [hR]; exact Nat.two_pow_pos _
 obtain ⟨Q, hQ⟩ : ∃ Q, R * Q = 4294967296 := ⟨2 ^ (32 - n % 32), by rw [hR, ← Nat.pow_add, show n % 32 + (32 - n % 32) = 32 by omega]⟩
 have hpow : 2 ^ n = 4294967296 ^ W * R := by rw [hR, hW, Nat.mul_comm, ← W0a]
 refine i0f s n V _
  (fun _ x _ => ∃ (i : Nat) (l : List Nat), x = q00.mk (i : Nat) (wv l) ∧ i ≤ s.len - W ∧ WB l ∧ l.length = s.len - W ∧ seg l 0 i = a / 2 ^ n % 4294967296 ^ i)
  (fun _ x _ => (s.len - x.t6).toNat) ?_
 rw [td32, tm32, ← hW, i64w (n := (W : Int)) (by omega) (by omega)]
 refine ⟨fun h => ⟨_, rfl, ?_⟩, fun h => ?_⟩
 · simp only [ge_iff_le, decide_eq_true_eq] at h
   have : a / 2 ^ n = 0 := by
    refine Nat.div_eq_of_lt (Nat.lt_of_lt_of_le haw ?_)
    rw [hpow]
    have h1 : 4294967296 ^ s.len ≤ 4294967296 ^ W := Nat.pow_le_pow_right (by omega) (by omega)
    have := Nat.mul_le_mul_left (4294967296 ^ W) hR0
    omega
   rw [this]; exact e00.zero V
 simp only [ge_iff_le, decide_eq_false_iff_not] at h
 rw [i64w (n := (s.len : Int) - W) (by omega) (by omega), u64w (n := ((n % 32 : Nat) : Int)) (by omega) (by omega), Int.toNat_natCast, w0t (show n % 32 ≤ 64 by omega), ← hR]
 have hN : Int.toNat ((s.len : Int) - W) = s.len - W := by omega
 rw [hN]
 refine ⟨⟨by omega, by omega, by omega, by omega⟩, ⟨0, List.replicate (s.len - W) 0, ?_, by omega, WB.zeros _, by simp, ?_⟩, ?_⟩
 · rw [B02]; rfl
 · simp [P02, Nat.mod_one]
 rintro _ V2 hle2 ⟨i, l, rfl, hi, hwb, hl, hval⟩
 refine ⟨fun hp => ?_, fun hp b1 V4 hle4 hb1 => ?_⟩
 · simp only [decide_eq_true_eq] at hp
   simp only [Int.toNat_natCast]
   rw [i64w (n := (i : Int) + W) (by omega) (by omega), i64w (n := (i : Int) + W + 1) (by omega) (by omega), i64w (n := (i : Int) + 1) (by omega) (by omega)]
   have w1 := (q02 a).getD (W + i)
   have w2 := (q02 a).getD (W + i + 1)
   have e1 : Int.toNat ((i : Int) + W) = W + i := by omega
   have e2 : Int.toNat ((i : Int) + W + 1) = W + i + 1 := by omega
   have e3 : (2 : Int) ^ (min (Int.toNat 32) (u64.bits)) = 4294967296 := by decide
   have word := D0n (a := a) (W := W) (i := i) hQ hR0
   rw [← hpow] at word
   have step : ∀ z : Nat, z = (dig a).getD (W + i) 0 + 4294967296 * (dig a).getD (W + i + 1) 0 →
    (∃ (i' : Nat) (l' : List Nat), q00.mk ((i : Int) + 1) ((wv l).set (0 + i * 1) (.int .u32 (u32.wrap (Int.fdiv (z : Int) (R : Nat))))) = q00.mk (i' : Nat) (wv l') ∧ i' ≤ s.len - W ∧ WB l' ∧ l'.length = s.len - W ∧ seg l' 0 i' = a / 2 ^ n % 4294967296 ^ i') := by
    intro z hz
    have ez : u32.wrap (Int.fdiv (z : Int) (R : Nat)) = ((a / 2 ^ n / 4294967296 ^ i % 4294967296 : Nat) : Int) := by
     rw [Int.fdiv_eq_ediv_of_nonneg _ (by omega), u32m, ← word, ← hz]; rfl
    rw [ez, show 0 + i * 1 = i by omega, D02]
    refine ⟨i + 1, _, rfl, by omega, hwb.set (Nat.mod_lt _ (by omega)), by simpa using hl, ?_⟩
    rw [c01 (by omega) (by omega), hval, Nat.pow_succ, Nat.mod_mul, Nat.mul_comm (4294967296 ^ i)]
   have hme : ((s.len : Int) - ((i : Int) + 1)).toNat < ((s.len : Int) - i).toNat := by omega
   have g1 := (hs.le hle2).get (i := (i : Int) + W) (by omega) (by omega)
   rw [e1] at g1 ⊢
   refine ⟨⟨by omega, by omega, hs.isSome (by omega)⟩, _, g1, fun hq => ?_, fun hq => ?_⟩
   · simp only [decide_eq_true_eq] at hq
     have g2 := (hs.le hle2).get (i := (i : Int) + W + 1) (by omega) (by omega)
     rw [e2] at g2 ⊢
     refine ⟨⟨by omega, by omega, hs.isSome (by omega)⟩, _, g2, by omega, ⟨by omega, by omega⟩, by rw [g00]; omega, ?_⟩
     rw [e3, u64w (n := (((dig a).getD (W + i) 0 : Nat) : Int)) (by omega) (by omega), u64w (n := (((dig a).getD (W + i + 1) 0 : Nat) : Int)) (by omega) (by omega), u64w (n := (((dig a).getD (W + i + 1) 0 : Nat) : Int) * 4294967296) (by omega) (by omega),
      show (((dig a).getD (W + i + 1) 0 : Nat) : Int) * 4294967296 = (((dig a).getD (W + i + 1) 0 * 4294967296 : Nat) : Int) by omega, p0v w1 w2, u64w (by omega) (by omega)]
     exact ⟨step _ (by omega), hme⟩
   · simp only [decide_eq_false_iff_not] at hq
     refine ⟨by omega, ⟨by omega, by omega⟩, by rw [g00]; omega, ?_⟩
     rw [u64w (n := (((dig a).getD (W + i) 0 : Nat) : Int)) (by omega) (by omega)]
     have h0 : (dig a).getD (W + i + 1) 0 = 0 := by simp only [List.getD]; rw [List.getElem?_eq_none (by omega)]; rfl
     exact ⟨step _ (by omega), hme⟩
 · simp only [decide_eq_false_iff_not] at hp
   have hi' : i = s.len - W := by omega
   subst hi'
   have hw : z00 V4 (Sl.mk (some (Addr.mk b1 0 none)) (s.len - W) (s.len - W)) l := z00.of_block hb1 (by omega) (Nat.le_refl _) hwb
   refine (X01 hw (by omega)).mono fun v V6 _ ⟨r, hv, hr⟩ => ⟨r, hv, r, rfl, ?_⟩
   rw [q04 (by omega)] at hval
   have hlt : a / 2 ^ n < 4294967296 ^ (s.len - W) := by
    rw [hpow, ← Nat.div_div_eq_div_mul]
    refine Nat.lt_of_le_of_lt (Nat.div_le_self _ _) ?_
    rw [Nat.div_lt_iff_lt_mul (Nat.pow_pos (by omega)), ← Nat.pow_add, show s.len - W + W = s.len by omega]
    exact haw
   rw [hval, Nat.mod_eq_of_lt hlt] at hr; exact hr

theorem o0w (P : Nat) (h : P < 18446744073709551616) : BitVec.toNat ((BitVec.ofInt u64.bits (P : Int)) &&& (BitVec.ofInt u64.bits 4294967295)) = P % 4294967296 := by
 rw [BitVec.toNat_and]
 have e1 : (BitVec.ofInt u64.bits (P : Int)).toNat = P := of64 h
 have e2 : (BitVec.ofInt u64.bits 4294967295).toNat = 2 ^ 32 - 1 := by decide
 rw [e1, e2, Nat.and_two_pow_sub_one_eq_mod]
structure M0k (X vN n m j g i cr bo : Nat) (u qd u0 : List Nat) : Prop where
 div : DivI X vN n m (j + 1) u0 qd
 n2 : 2 ≤ n
 nm : n ≤ m
 wn : wn vN = n
 g32 : g < 4294967296
 ge : seg u0 j (n + 1) / vN ≤ g
 gl : (g - 1) * vN ≤ seg u0 j (n + 1)
 i_le : i ≤ n
 wu : WB u
 lu : u.length = m
 cr32 : cr < 4294967296
 bo1 : bo ≤ 1
 out : ∀ p, p < j ∨ j + i ≤ p → u.getD p 0 = u0.getD p 0
 val : seg u j i + g * wval ((dig vN).take i) = seg u0 j i + (cr + bo) * 4294967296 ^ i
structure x0i (X vN n m j g k cr : Nat) (u qd u0 l' : List Nat) : Prop where
 div : DivI X vN n m (j + 1) u0 qd
 n2 : 2 ≤ n
 nm : n ≤ m
 wn : wn vN = n
 wl : WB l'
 ll : l'.length = m
 out : ∀ i, i < j ∨ j + n < i → l'.getD i 0 = u0.getD i 0
 eq : seg l' j (n + 1) + g * vN = seg u0 j (n + 1) + 4294967296 ^ (n + 1)
 g32 : g < 4294967296
 ge : seg u0 j (n + 1) / vN ≤ g
 gl : (g - 1) * vN ≤ seg u0 j (n + 1)
 k_le : k ≤ n
 cr1 : cr ≤ 1
 wu : WB u
 lu : u.length = m
 out2 : ∀ i, i < j ∨ j + k ≤ i → u.getD i 0 = l'.getD i 0
 val : seg u j k + cr * 4294967296 ^ k = seg l' j k + seg (dig vN) 0 k
theorem M0k.jn {X vN n m j g i cr bo : Nat} {u qd u0 : List Nat} (h : M0k X vN n m j g i cr bo u qd u0) : j + n < m := by
 have := h.div.jl
 have := h.nm
 omega
theorem x0i.jn {X vN n m j g i cr : Nat} {u qd u0 l' : List Nat} (h : x0i X vN n m j g i cr u qd u0 l') : j + n < m := by
 have := h.div.jl
 have := h.nm
 omega
theorem d0u {vN n : Nat} (h : wn vN = n) (hn : 2 ≤ n) : 0 < vN := by
 rcases Nat.eq_zero_or_pos vN with h0 | h0
 · subst h0; rw [J04] at h; omega
 · exact h0
theorem M0k.step {X vN n m j g i cr bo : Nat} {u qd u0 : List Nat} (h : M0k X vN n m j g i cr bo u qd u0) (hi : i < n) :
 ∃ low br c : Nat, u32.wrap (u64.wrap ((u64.wrap ((u64.wrap ((u.getD (j + i) 0 : Nat) : Int)) - (u64.wrap ((BitVec.toNat ((BitVec.ofInt u64.bits (u64.wrap ((u64.wrap ((g : Int) * (u64.wrap (((dig vN).getD i 0 : Nat) : Int)))) + (cr : Int)))) &&& (BitVec.ofInt u64.bits 4294967295)) : Nat) : Int)))) - (bo : Int))) = (low : Int) ∧
  Int.fdiv (u64.wrap ((u64.wrap ((u64.wrap ((u.getD (j + i) 0 : Nat) : Int)) - (u64.wrap ((BitVec.toNat ((BitVec.ofInt u64.bits (u64.wrap ((u64.wrap ((g : Int) * (u64.wrap (((dig vN).getD i 0 : Nat) : Int)))) + (cr : Int)))) &&& (BitVec.ofInt u64.bits 4294967295)) : Nat) : Int)))) - (bo : Int))) 9223372036854775808 = (br : Int) ∧
  Int.fdiv (u64.wrap ((u64.wrap ((g : Int) * (u64.wrap (((dig vN).getD i 0 : Nat) : Int)))) + (cr : Int))) 4294967296 = (c : Int) ∧
  M0k X vN n m j g (i + 1) c br (u.set (j + i) low) qd u0 := by
 have hjn := h.jn
 have hvi := (q02 vN).getD i
 have hui := h.wu.getD (j + i)
 have hlu := h.lu
 have hc := h.cr32
 have hm' := U0a h.g32 hvi
 have hu0 : u0.getD (j + i) 0 = u.getD (j + i) 0 := (h.out (j + i) (by omega)).symm
 generalize hA : (dig vN).getD i 0 = A at *
 generalize hU : u.getD (j + i) 0 = U at *
 obtain ⟨P, hP⟩ : ∃ P, P = g * A + cr := ⟨_, rfl⟩
 rw [u64w (n := (A : Int)) (by omega) (by omega), ← Int.natCast_mul, u64w (n := ((g * A : Nat) : Int)) (by omega) (by omega), u64w (n := ((g * A : Nat) : Int) + cr) (by omega) (by omega),
  show ((g * A : Nat) : Int) + cr = (P : Nat) by omega, o0w P (by omega), u64w (n := ((P % 4294967296 : Nat) : Int)) (by omega) (by omega), u64w (n := (U : Int)) (by omega) (by omega), Int.fdiv_eq_ediv_of_nonneg (P : Int) (by omega),
  show (P : Int) / 4294967296 = ((P / 4294967296 : Nat) : Int) by omega]
 obtain ⟨low, br, h1, h2, h3, h4, h5⟩ := J07 hui (Nat.mod_lt P (by omega : 0 < 4294967296)) h.bo1
 refine ⟨low, br, _, h4, h5, rfl, h.div, h.n2, h.nm, h.wn, h.g32, h.ge, h.gl, hi, h.wu.set h1, by simpa using hlu, by omega, h2, ?_, ?_⟩
 · intro p hp
   rw [n03, if_neg (by omega)]; exact h.out p (by omega)
 · have hval := h.val
   rw [c01 rfl (by omega), Z00, f00, hA, hu0, Nat.pow_succ]
   have h6 : low + g * A + cr + bo = U + (P / 4294967296 + br) * 4294967296 := by
    have := Nat.div_add_mod P 4294967296
    omega
   have h7 := congrArg (· * 4294967296 ^ i) h6
   simp only [Nat.add_mul] at h7 hval ⊢
   have h8 : g * (wval (List.take i (dig vN)) + A * 4294967296 ^ i) = g * wval (List.take i (dig vN)) + g * A * 4294967296 ^ i := by rw [Nat.mul_add, Nat.mul_assoc]
   have h9 : ∀ z, z * (4294967296 ^ i * 4294967296) = z * 4294967296 * 4294967296 ^ i := by intro z; grind
   rw [h8, h9, h9]
   omega
theorem M0k.last {X vN n m j g cr bo : Nat} {u qd u0 : List Nat} (h : M0k X vN n m j g n cr bo u qd u0) :
 ∃ low br : Nat, u32.wrap (u64.wrap ((u64.wrap ((u64.wrap ((u.getD (j + n) 0 : Nat) : Int)) - (cr : Int))) - (bo : Int))) = (low : Int) ∧
  Int.fdiv (u64.wrap ((u64.wrap ((u64.wrap ((u.getD (j + n) 0 : Nat) : Int)) - (cr : Int))) - (bo : Int))) 9223372036854775808 = (br : Int) ∧ (u.set (j + n) low).length = m ∧
  (br = 1 → x0i X vN n m j g 0 0 (u.set (j + n) low) qd u0 (u.set (j + n) low) ∧ 0 < g) ∧ (br ≠ 1 → DivI X vN n m j (u.set (j + n) low) (qd.set j g)) := by
 have hjn := h.jn
 have hui := h.wu.getD (j + n)
 have hlu := h.lu
 have hu0 : u0.getD (j + n) 0 = u.getD (j + n) 0 := (h.out (j + n) (by omega)).symm
 generalize hU : u.getD (j + n) 0 = U at *
 obtain ⟨low, br, h1, h2, h3, h4, h5⟩ := J07 hui h.cr32 h.bo1
 rw [u64w (n := (U : Int)) (by omega) (by omega)]
 refine ⟨low, br, h4, h5, ?_⟩
 obtain ⟨l', hl'⟩ : ∃ l', l' = u.set (j + n) low := ⟨_, rfl⟩
 rw [← hl']
 have hwl' : WB l' := by rw [hl']; exact h.wu.set h1
 have hll' : l'.length = m := by rw [hl']; simpa using hlu
 have hout : ∀ p, p < j ∨ j + n < p → l'.getD p 0 = u0.getD p 0 := by
  intro p hp
  rw [hl', n03, if_neg (by omega)]; exact h.out p (by omega)
 have hwv := h.wn
 have hvpos := d0u hwv h.n2
 have heq : seg l' j (n + 1) + g * vN = seg u0 j (n + 1) + br * 4294967296 ^ (n + 1) := by
  have hval := h.val
  rw [i00 (l := dig vN) (Nat.le_of_eq hwv), n00] at hval
  rw [hl', c01 rfl (by omega), Z00, hu0, Nat.pow_succ]
  have h7 := congrArg (· * 4294967296 ^ n) h3
  simp only [Nat.add_mul] at h7 hval
  have h9 : br * (4294967296 ^ n * 4294967296) = br * 4294967296 * 4294967296 ^ n := by grind
  rw [h9]
  omega
 have hlt1 := Q07 hwl' j (n + 1)
 refine ⟨hll', fun hb => ?_, fun hb => ?_⟩
 · rw [hb, Nat.one_mul] at heq
   refine ⟨⟨h.div, h.n2, h.nm, hwv, hwl', hll', hout, heq, h.g32, h.ge, h.gl, by omega, by omega, hwl', hll', fun _ _ => rfl, by simp [P02]⟩, ?_⟩
   rcases Nat.eq_zero_or_pos g with h0 | h0
   · exfalso; subst h0; omega
   · exact h0
 · have hb0 : br = 0 := by omega
   rw [hb0, Nat.zero_mul, Nat.add_zero] at heq
   have G9 := N0h h.div.wu h.n2 hwv h.div.lt
   have hcase := D0e G9 h.ge h.gl
   have hvlt : vN < 4294967296 ^ n := by rw [← hwv]; exact U09 vN
   obtain ⟨W9, hW9⟩ : ∃ W9, W9 = seg u0 j (n + 1) := ⟨_, rfl⟩
   rw [← hW9] at hcase heq
   have hWm : W9 % vN < vN := Nat.mod_lt _ hvpos
   have hWd := Nat.div_add_mod W9 vN
   have hgq : g = W9 / vN := by
    rcases hcase with h | h
    · exact h
    · exfalso; rw [h, Nat.succ_mul, Nat.mul_comm] at heq; omega
   have hgm : g * vN = vN * (W9 / vN) := by rw [hgq, Nat.mul_comm]
   have hR : seg l' j (n + 1) = W9 % vN := by omega
   refine h.div.next h.nm (R := W9 % vN) (by rw [← hW9]; omega) hWm h.g32 hwl' hll' ?_ (l0i hR (by omega))
   exact k0i fun i _ hi => hout i (by omega)
theorem x0i.step {X vN n m j g k cr : Nat} {u qd u0 l' : List Nat} (h : x0i X vN n m j g k cr u qd u0 l') (hk : k < n) :
 ∃ low c : Nat, u32.wrap (u64.wrap ((u64.wrap ((u64.wrap ((u.getD (j + k) 0 : Nat) : Int)) + (u64.wrap (((dig vN).getD k 0 : Nat) : Int)))) + (cr : Int))) = (low : Int) ∧
  Int.fdiv (u64.wrap ((u64.wrap ((u64.wrap ((u.getD (j + k) 0 : Nat) : Int)) + (u64.wrap (((dig vN).getD k 0 : Nat) : Int)))) + (cr : Int))) 4294967296 = (c : Int) ∧
  x0i X vN n m j g (k + 1) c (u.set (j + k) low) qd u0 l' := by
 have hjn := h.jn
 have hA := (q02 vN).getD k
 have hU := h.wu.getD (j + k)
 have hlu := h.lu
 have hcr := h.cr1
 have hL : l'.getD (j + k) 0 = u.getD (j + k) 0 := (h.out2 (j + k) (by omega)).symm
 generalize hA' : (dig vN).getD k 0 = A at *
 generalize hU' : u.getD (j + k) 0 = U at *
 rw [u64w (n := (U : Int)) (by omega) (by omega), u64w (n := (A : Int)) (by omega) (by omega), u64w (n := (U : Int) + A) (by omega) (by omega), u64w (n := (U : Int) + A + cr) (by omega) (by omega), Int.fdiv_eq_ediv_of_nonneg _ (by omega)]
 have K2 : u32.wrap ((U : Int) + A + cr) = (((cr + U + A) % 4294967296 : Nat) : Int) := by rw [u32m]; omega
 have K3 : ((U : Int) + A + cr) / 4294967296 = (((cr + U + A) / 4294967296 : Nat) : Int) := by omega
 refine ⟨_, _, K2, K3, h.div, h.n2, h.nm, h.wn, h.wl, h.ll, h.out, h.eq, h.g32, h.ge, h.gl, hk, by omega, h.wu.set (by omega), by simpa using hlu, ?_, ?_⟩
 · intro i hi; rw [n03, if_neg (by omega)]; exact h.out2 i (by omega)
 · have hseg := h.val
   rw [c01 rfl (by omega), Z00, Z00, Nat.zero_add, hA', hL, Nat.pow_succ]
   have h6 : (cr + U + A) % 4294967296 + (cr + U + A) / 4294967296 * 4294967296 = cr + U + A := by omega
   have h7 := congrArg (· * 4294967296 ^ k) h6
   simp only [Nat.add_mul] at h7 hseg ⊢
   have h9 : ∀ z, z * (4294967296 ^ k * 4294967296) = z * 4294967296 * 4294967296 ^ k := by intro z; grind
   rw [h9]
   omega
theorem x0i.last {X vN n m j g cr : Nat} {u qd u0 l' : List Nat} (h : x0i X vN n m j g n cr u qd u0 l') :
 ∃ low : Nat, u32.wrap (((u.getD (j + n) 0 : Nat) : Int) + u32.wrap (cr : Int)) = (low : Int) ∧ DivI X vN n m j (u.set (j + n) low) (qd.set j (g - 1)) := by
 have hjn := h.jn
 have hT := h.wu.getD (j + n)
 have hcr := h.cr1
 have hlu := h.lu
 have hL : l'.getD (j + n) 0 = u.getD (j + n) 0 := (h.out2 (j + n) (by omega)).symm
 generalize hT' : u.getD (j + n) 0 = T at *
 have K1 : u32.wrap ((T : Int) + u32.wrap (cr : Int)) = (((T + cr) % 4294967296 : Nat) : Int) := by rw [u32w (n := (cr : Int)) (by omega) (by omega), u32m]; omega
 refine ⟨_, K1, ?_⟩
 have hwv := h.wn
 have hvpos := d0u hwv h.n2
 have hvlt : vN < 4294967296 ^ n := by rw [← hwv]; exact U09 vN
 have hlt1 := Q07 h.wl j (n + 1)
 have heq := h.eq
 have hge := h.ge
 have hgl := h.gl
 have hW3 : ∃ R, seg u0 j (n + 1) = R + (g - 1) * vN ∧ R < vN ∧ seg l' j (n + 1) + vN = R + 4294967296 ^ (n + 1) := by
  obtain ⟨W3, hW3⟩ : ∃ W3, W3 = seg u0 j (n + 1) := ⟨_, rfl⟩
  rw [← hW3] at heq hge hgl ⊢
  have h2 : W3 / vN < g := by
   rw [Nat.div_lt_iff_lt_mul hvpos]; omega
  have h3 : g - 1 = W3 / vN := by
   have := (Nat.le_div_iff_mul_le hvpos).2 hgl
   omega
  have h4 := Nat.div_add_mod' W3 vN
  have h5 : W3 % vN < vN := Nat.mod_lt _ hvpos
  refine ⟨W3 % vN, by rw [h3]; omega, h5, ?_⟩
  have h6 : g * vN = (g - 1) * vN + vN := by
   obtain ⟨q, rfl⟩ : ∃ q, g = q + 1 := ⟨g - 1, by omega⟩
   rw [Nat.succ_mul, Nat.add_sub_cancel]
  rw [h3] at h6
  omega
 obtain ⟨R, hR1, hR2, hR3⟩ := hW3
 have hfin : seg (u.set (j + n) ((T + cr) % 4294967296)) j (n + 1) = R := by
  rw [c01 rfl (by omega)]
  rw [Z00, hL] at hR3
  have hseg := h.val
  rw [p0m vN (Nat.le_of_eq hwv)] at hseg
  exact F0n (Q07 h.wu j n) (by omega) hT hcr hR3 hseg
 have hg1 : g - 1 < 4294967296 := by have := h.g32; omega
 refine h.div.next h.nm hR1 hR2 hg1 (h.wu.set (by omega)) (by simpa using hlu) ?_ (l0i hfin (by omega))
 rw [X04 (by omega)]
 exact k0i fun i _ hi => (h.out2 i (by omega)).trans (h.out i (by omega))
