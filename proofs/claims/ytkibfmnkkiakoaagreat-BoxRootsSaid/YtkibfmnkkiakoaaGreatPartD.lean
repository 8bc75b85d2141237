/- Part. -/
import Derived.Test.YtkibfmnkkiakoaaGreatPartC
import Derived.Deep.Slices
namespace Go.Proofs.YtkibfmnkkiakoaaGreat
open Go Go.Vc Go.Proofs
open Go.Proofs.Tryz (prog)
open Go.IntKind (i64 u64 u32 u8)
theorem W0c {V : View} {s t : Sl} {a b : Nat} (hs : e00 V s a) (ht : e00 V t b) (ha : wn a ≤ 2 ^ 43) (hb : wn b ≤ 2 ^ 43) :
 a00 prog q0r #[s.v, t.v] V fun v V' => ∃ r : Sl, v = r.v ∧ e00 V' r (Nat.gcd a b) := by
 refine E0p s t V _ (fun _ x V' => ∃ a' b', e00 V' x.t0 a' ∧ e00 V' x.t1 b' ∧ wn a' ≤ 2 ^ 43 ∧ wn b' ≤ 2 ^ 43 ∧ Nat.gcd a' b' = Nat.gcd a b) (fun _ x V' => M0c V' x.t1) ⟨⟨a, b, hs, ht, ha, hb, rfl⟩, ?_⟩
 rintro ⟨x, y⟩ V1 l1 ⟨a', b', hx, hy, wa, wb, hg⟩
 simp only at hx hy ⊢
 have hyl := hy.len
 refine ⟨fun hp => ?_, fun hp => ?_⟩
 · simp only [gt_iff_lt, decide_eq_true_eq] at hp
   have hb0 : b' ≠ 0 := fun e => by rw [← hy.len_zero] at e; omega
   refine (O05 hx hy wa hb0).mono fun v V2 l2 ⟨q, r, hv, hq, hr⟩ => ⟨q, r, hv, ?_⟩
   have hlt : a' % b' < b' := Nat.mod_lt _ (by omega)
   have hwr : wn (a' % b') ≤ wn b' := X04 (Nat.le_of_lt hlt)
   refine ⟨⟨b', a' % b', hy.le l2, hr, wb, by omega, ?_⟩, ?_⟩
   · rw [Nat.gcd_comm, ← Nat.gcd_rec, Nat.gcd_comm]; exact hg
   · rw [L05 hr, L05 hy]; exact hlt
 · simp only [gt_iff_lt, decide_eq_false_iff_not] at hp
   have hb0 : b' = 0 := hy.len_zero.1 (by omega)
   subst hb0
   rw [Nat.gcd_zero_right] at hg
   exact ⟨x, rfl, by rw [← hg]; exact hx⟩
theorem P01 {V : View} {s : Sl} {n : Nat} (neg : Bool) (h : e00 V s n) :
 a00 prog O07 #[.bool neg, s.v] V fun v V' => ∃ r : WhV, v = r.val ∧ I00 V' r (if neg = true then -(n : Int) else n) := by
 have hl := h.len_zero
 refine w0f neg s V _ ⟨fun hn => ⟨_, rfl, ?_, ?_⟩, fun hn => ⟨_, rfl, ?_, ?_⟩⟩
 · rw [if_pos hn]; simp only [gt_iff_lt, decide_eq_decide]; omega
 · rw [if_pos hn]; simpa using h
 · rw [if_neg (by simp [hn])]; symm; simp only [decide_eq_false_iff_not]; omega
 · rw [if_neg (by simp [hn])]; simpa using h
theorem S0i {V : View} {n : Int} (h0 : -9223372036854775808 ≤ n) (h1 : n ≤ 9223372036854775807) :
 a00 prog o0p #[.int .i64 n] V fun v V' => ∃ r : WhV, v = r.val ∧ I00 V' r n := by
 refine C0m n V _ ⟨fun hn => ?_, fun hn => ?_⟩
 · simp only [decide_eq_true_eq] at hn
   have e : u64.wrap (0 - u64.wrap n) = -n := by rw [u64m, u64m]; omega
   rw [e]
   refine (q04 (by omega) (by omega)).mono fun v V1 _ ⟨r, hv, hr⟩ => ⟨r, hv, _, rfl, by simp [hn], ?_⟩
   have e2 : n.natAbs = (-n).toNat := by omega
   rw [e2]; exact hr
 · simp only [decide_eq_false_iff_not] at hn
   rw [u64w (by omega) (by omega)]
   refine (q04 (by omega) (by omega)).mono fun v V1 _ ⟨r, hv, hr⟩ => ⟨r, hv, _, rfl, by simp [hn], ?_⟩
   have e2 : n.natAbs = n.toNat := by omega
   rw [e2]; exact hr
theorem w03 {V : View} {x : WhV} {a : Int} (h : I00 V x a) :
 a00 prog C0h #[x.val] V fun v V' => ∃ r : WhV, v = r.val ∧ I00 V' r (-a) := by
 refine x0f x V _ ((P01 (!x.neg) h.2).mono fun v V1 _ ⟨r, hv, hr⟩ => ⟨r, hv, r, rfl, ?_⟩)
 have e : (if (!x.neg) = true then -(a.natAbs : Int) else (a.natAbs : Int)) = -a := by
  rw [h.1]; simp only [Bool.not_eq_true', decide_eq_false_iff_not]; split <;> omega
 rw [e] at hr; exact hr
theorem l03 {V : View} {x y : WhV} {a b : Int} (hx : I00 V x a) (hy : I00 V y b) (ha : wn a.natAbs ≤ 2 ^ 43) (hb : wn b.natAbs ≤ 2 ^ 43) :
 a00 prog T0j #[x.val, y.val] V fun v V' => ∃ r : WhV, v = r.val ∧ I00 V' r (a + b) := by
 have h1 := hx.1
 have h2 := hy.1
 refine W0h x y V _ ⟨fun hs => ?_, fun hs => ?_⟩
 · refine (c0l hx.2 hy.2 (by omega) (by omega)).mono fun v V1 l1 ⟨r, hv, hr⟩ => ⟨r, hv, ?_⟩
   refine (P01 x.neg hr).mono fun v V2 _ ⟨w, hv, hw⟩ => ⟨w, hv, w, rfl, ?_⟩
   have e : (if x.neg = true then -((a.natAbs + b.natAbs : Nat) : Int) else ((a.natAbs + b.natAbs : Nat) : Int)) = a + b := by
    rw [h1, h2] at hs; rw [h1]
    by_cases p : a < 0 <;> by_cases q : b < 0 <;> simp [p, q] at hs ⊢ <;> omega
   rw [e] at hw; exact hw
 · refine (X06 hx.2 hy.2 (by omega)).mono fun v V1 l1 hv => ⟨_, hv, fun hc => ?_, fun hc => ?_⟩
   · have hc : b.natAbs ≤ a.natAbs := by
       rcases Nat.lt_or_ge a.natAbs b.natAbs with h | h
       · rw [if_pos h] at hc; simp at hc
       · exact h
     refine (T0c (hx.2.le l1) (hy.2.le l1) (by omega) hc).mono fun v V2 l2 ⟨r, hv, hr⟩ => ⟨r, hv, ?_⟩
     refine (P01 x.neg hr).mono fun v V3 _ ⟨w, hv, hw⟩ => ⟨w, hv, w, rfl, ?_⟩
     have e : (if x.neg = true then -((a.natAbs - b.natAbs : Nat) : Int) else ((a.natAbs - b.natAbs : Nat) : Int)) = a + b := by
      rw [h1, h2] at hs; rw [h1]
      by_cases p : a < 0 <;> by_cases q : b < 0 <;> simp [p, q] at hs ⊢ <;> omega
     rw [e] at hw; exact hw
   · have hc : a.natAbs ≤ b.natAbs := by
       rcases Nat.lt_or_ge b.natAbs a.natAbs with h | h
       · rw [if_neg (by omega), if_neg (by omega)] at hc; simp at hc
       · exact h
     refine (T0c (hy.2.le l1) (hx.2.le l1) (by omega) hc).mono fun v V2 l2 ⟨r, hv, hr⟩ => ⟨r, hv, ?_⟩
     refine (P01 y.neg hr).mono fun v V3 _ ⟨w, hv, hw⟩ => ⟨w, hv, w, rfl, ?_⟩
     have e : (if y.neg = true then -((b.natAbs - a.natAbs : Nat) : Int) else ((b.natAbs - a.natAbs : Nat) : Int)) = a + b := by
      rw [h1, h2] at hs; rw [h2]
      by_cases p : a < 0 <;> by_cases q : b < 0 <;> simp [p, q] at hs ⊢ <;> omega
     rw [e] at hw; exact hw
theorem l0o (x y a b : Int) (hx : x = if a < 0 then -1 else 1) (hy : y = if b < 0 then -1 else 1) : a * b = x * y * (a.natAbs * b.natAbs : Nat) := by
 have ha : a = x * a.natAbs := by rw [hx]; split <;> omega
 have hb : b = y * b.natAbs := by rw [hy]; split <;> omega
 rw [Int.natCast_mul]
 conv => lhs; rw [ha, hb]
 grind
theorem U02 {V : View} {x y : WhV} {a b : Int} (hx : I00 V x a) (hy : I00 V y b) (ha : wn a.natAbs ≤ 2 ^ 43) (hb : wn b.natAbs ≤ 2 ^ 43) :
 a00 prog B0h #[x.val, y.val] V fun v V' => ∃ r : WhV, v = r.val ∧ I00 V' r (a * b) := by
 refine y0f x y V _ ((N05 hx.2 hy.2 (by omega) (by omega)).mono fun v V1 l1 ⟨r, hv, hr⟩ => ⟨r, hv, ?_⟩)
 refine (P01 (!(x.neg == y.neg)) hr).mono fun v V2 _ ⟨w, hv, hw⟩ => ⟨w, hv, w, rfl, ?_⟩
 have e : (if (!(x.neg == y.neg)) = true then -((a.natAbs * b.natAbs : Nat) : Int) else ((a.natAbs * b.natAbs : Nat) : Int)) = a * b := by
  rw [l0o _ _ a b rfl rfl, hx.1, hy.1]
  by_cases p : a < 0 <;> by_cases q : b < 0 <;> simp [p, q]
 rw [e] at hw; exact hw
theorem X00 {V : View} {x : WhV} {s : Sl} {a : Int} {n : Nat} (hx : I00 V x a) (hs : e00 V s n) (ha : wn a.natAbs ≤ 2 ^ 43) (hb : wn n ≤ 2 ^ 43) :
 a00 prog t0f #[x.val, s.v] V fun v V' => ∃ r : WhV, v = r.val ∧ I00 V' r (a * n) := by
 refine s0e x s V _ ((N05 hx.2 hs (by omega) (by omega)).mono fun v V1 l1 ⟨r, hv, hr⟩ => ⟨r, hv, ?_⟩)
 refine (P01 x.neg hr).mono fun v V2 _ ⟨w, hv, hw⟩ => ⟨w, hv, w, rfl, ?_⟩
 have e : (if x.neg = true then -((a.natAbs * n : Nat) : Int) else ((a.natAbs * n : Nat) : Int)) = a * n := by
  conv => rhs; rw [hx.val]
  rw [Int.natCast_mul]; split
  · rw [Int.neg_mul]
  · rfl
 rw [e] at hw; exact hw
theorem n0a {V : View} {x y : WhV} {a b : Int} (hx : I00 V x a) (hy : I00 V y b) (ha : wn a.natAbs ≤ 2 ^ 43) (hb : wn b.natAbs ≤ 2 ^ 43) :
 a00 prog d0m #[x.val, y.val] V fun v _ => v = .int .i64 (cmpZ a b) := by
 refine i0k x y V _ ((w03 hy).mono fun v V1 l1 ⟨r, hv, hr⟩ => ⟨r, hv, ?_⟩)
 refine (l03 (hx.le l1) hr ha (by rw [Int.natAbs_neg]; exact hb)).mono fun v V2 l2 ⟨w, hv, hw⟩ => ⟨w, hv, fun h => ?_, fun h => ?_⟩
 · have : a + -b < 0 := by have := hw.1; rw [h] at this; simpa using this
   rw [J0a (by omega)]
 · have h1 : ¬ a + -b < 0 := by have := hw.1; rw [h] at this; simpa using this
   have h2 := hw.2.len_zero
   by_cases e : a = b
   · have : w.mag.len = 0 := h2.2 (by omega)
     rw [D0i e, this]; rfl
   · have : w.mag.len ≠ 0 := fun h => by have := h2.1 h; omega
     rw [C0e (by omega)]
     congr 1; split <;> omega
theorem q03 {V : View} {x y : WhV} {s : Sl} {z : Cq} {a b : Int} {d : Nat} (hx : I00 V x a) (hy : I00 V y b) (hs : e00 V s d) (hz : Rep z a b d) (ha : wn a.natAbs ≤ 2 ^ 43) (hb : wn b.natAbs ≤ 2 ^ 43) (hd : wn d ≤ 2 ^ 43) :
 a00 prog j0p #[x.val, y.val, s.v] V fun v V' => ∃ r : NumV, v = r.val ∧ S01 V' r z := by
 obtain ⟨e1, e2, e3⟩ := hz.eqs
 have hp := C0i a b hz.pos
 have d1 := z0b a b d
 have d2 := A0b a b d
 have d3 := A0e a b d
 refine D0m x y s V _ ((W0c hx.2 hy.2 ha hb).mono fun v V1 l1 ⟨r1, hv, h1⟩ => ⟨r1, hv, ?_⟩)
 have hw1 : wn (Nat.gcd a.natAbs b.natAbs) ≤ 2 ^ 43 := by
  rcases Nat.eq_zero_or_pos a.natAbs with h | h
  · rw [h, Nat.gcd_zero_left]; exact hb
  · exact Nat.le_trans (X04 (Nat.le_of_dvd h (Nat.gcd_dvd_left _ _))) ha
 refine (W0c h1 (hs.le l1) hw1 hd).mono fun v V2 l2 ⟨r2, hv, h2⟩ => ⟨r2, hv, ?_⟩
 have hg : Nat.gcd (Nat.gcd a.natAbs b.natAbs) d = gcd3 a b d := rfl
 rw [hg] at h2
 refine (U08 h2).mono fun v V3 l3 hv => ⟨_, hv, fun hn => ?_, fun hn => ?_⟩
 · have l13 := View.le_trans l1 (View.le_trans l2 l3)
   refine (O05 (hx.2.le l13) (h2.le l3) ha (by omega)).mono fun v V4 l4 ⟨q1, m1, hv, hq1, _⟩ => ⟨q1, m1, hv, ?_⟩
   refine (O05 (hy.2.le (View.le_trans l13 l4)) (h2.le (View.le_trans l3 l4)) hb (by omega)).mono fun v V5 l5 ⟨q2, m2, hv, hq2, _⟩ => ⟨q2, m2, hv, ?_⟩
   have l45 := View.le_trans l4 l5
   refine (O05 (hs.le (View.le_trans l13 l45)) (h2.le (View.le_trans l3 l45)) hd (by omega)).mono fun v V6 l6 ⟨q3, m3, hv, hq3, _⟩ => ⟨q3, m3, hv, ?_⟩
   have f1 : I00 V6 (WhV.mk x.neg q1) z.A := ⟨by rw [e1, Y07 d1 hp]; exact hx.1, by rw [e1, G04 d1]; exact hq1.le (View.le_trans l5 l6)⟩
   have f2 : I00 V6 (WhV.mk y.neg q2) z.B := ⟨by rw [e2, Y07 d2 hp]; exact hy.1, by rw [e2, G04 d2]; exact hq2.le l6⟩
   refine (U08 hq3).mono fun v V7 l7 hv => ⟨_, hv, fun h => ⟨_, rfl, f1.le l7, f2.le l7, ?_⟩, fun h => ⟨_, rfl, f1.le l7, f2.le l7, ?_⟩⟩
   · simp only [decide_eq_true_eq] at h
     rw [e3, if_pos h]; exact e00.zero V7
   · simp only [decide_eq_false_iff_not] at h
     rw [e3, if_neg h]; exact hq3.le l7
 · simp only [Bool.not_eq_false', decide_eq_true_eq] at hn
   rw [hn] at e1 e2 e3
   simp only [Int.natCast_one, Int.ediv_one] at e1 e2
   rw [Nat.div_one] at e3
   have l13 := View.le_trans l1 (View.le_trans l2 l3)
   refine (U08 (hs.le l13)).mono fun v V7 l7 hv => ⟨_, hv, fun h => ⟨_, rfl, ?_, ?_, ?_⟩, fun h => ⟨_, rfl, ?_, ?_, ?_⟩⟩
   · rw [e1]; exact hx.le (View.le_trans l13 l7)
   · rw [e2]; exact hy.le (View.le_trans l13 l7)
   · simp only [decide_eq_true_eq] at h
     rw [e3, if_pos h]; exact e00.zero V7
   · rw [e1]; exact hx.le (View.le_trans l13 l7)
   · rw [e2]; exact hy.le (View.le_trans l13 l7)
   · simp only [decide_eq_false_iff_not] at h
     rw [e3, if_neg h]; exact hs.le (View.le_trans l13 l7)
theorem f01 {V : View} {x : NumV} {z : Cq} (h : S01 V x z) : a00 prog k0r #[x.val] V fun v V' => ∃ r : Sl, v = r.v ∧ e00 V' r z.D := by
 have hu := h.under
 have hl := hu.len_zero
 have hD := z.D_pos
 refine F0p x V _ ⟨fun h0 => ?_, fun h0 => ?_⟩
 · have h0 : x.under.len = 0 := by have : (x.under.len : Int) = 0 := (by simpa using h0); omega
   intro b V1 l1 _ hb
   have hz := hl.1 h0
   have h1 : z.D = 1 := by split at hz <;> omega
   refine ⟨_, rfl, ?_⟩
   rw [h1]
   have : dig 1 = [1] := by rw [A03 (by omega)]; simp [w02]
   unfold e00; rw [this]
   exact A00.of_block (by rw [hb]; rfl) rfl (Nat.le_refl _) (by intro d hd; simp at hd; omega)
 · have h0 : x.under.len ≠ 0 := by have : ¬ (x.under.len : Int) = 0 := (by simpa using h0); omega
   refine ⟨_, rfl, ?_⟩
   have hz : ¬ (if z.D = 1 then 0 else z.D) = 0 := fun e => h0 (hl.2 e)
   split at hz
   · omega
   · rename_i h1; rw [if_neg h1] at hu; exact hu
theorem X0c {V : View} {n : Int} (h0 : -9223372036854775808 ≤ n) (h1 : n ≤ 9223372036854775807) :
 a00 prog n0r #[.int .i64 n] V fun v V' => ∃ r : NumV, v = r.val ∧ S01 V' r ⟨(n : Rat), 0⟩ := by
 obtain ⟨e1, e2, e3⟩ := b07 n
 refine G0p n V _ ((S0i h0 h1).mono fun v V1 _ ⟨r, hv, hr⟩ => ⟨r, hv, _, rfl, by rw [e1]; exact hr, by rw [e2]; exact I00.zero _, by rw [e3]; exact e00.zero _⟩)
theorem wn64 {n : Nat} (h : n ≤ 18446744073709551615) : wn n ≤ 2 ^ 43 := by
 have : wn n ≤ 2 := f03 (by omega)
 omega
theorem Cq.wA {z : Cq} (h : z.sz ≤ 2 ^ 40) : wn z.A.natAbs ≤ 2 ^ 35 := J04 (by have := z.szA; omega)
theorem Cq.wB {z : Cq} (h : z.sz ≤ 2 ^ 40) : wn z.B.natAbs ≤ 2 ^ 35 := J04 (by have := z.szB; omega)
theorem Cq.wD {z : Cq} (h : z.sz ≤ 2 ^ 40) : wn z.D ≤ 2 ^ 35 := J04 (by have := z.szD; omega)
theorem j02 {a b : Int} {k : Nat} (ha : wn a.natAbs ≤ k) (hb : wn b.natAbs ≤ k) : wn (a * b).natAbs ≤ 2 * k := by
 rw [Int.natAbs_mul]; have := K05 a.natAbs b.natAbs; omega
theorem d08 {a b : Int} {k : Nat} (ha : wn a.natAbs ≤ k) (hb : wn b.natAbs ≤ k) : wn (a + b).natAbs ≤ k + 1 := by
 have := X04 (Int.natAbs_add_le a b); have := N0k a.natAbs b.natAbs; omega
theorem s0s {a : Int} {k : Nat} (ha : wn a.natAbs ≤ k) : wn (-a).natAbs ≤ k := by rw [Int.natAbs_neg]; exact ha
theorem Y06 {V : View} {x y : NumV} {z w : Cq} (hx : S01 V x z) (hy : S01 V y w) (hz : z.sz ≤ 2 ^ 40) (hw : w.sz ≤ 2 ^ 40) :
 a00 prog Y0q #[x.val, y.val] V fun v V' => ∃ r : NumV, v = r.val ∧ S01 V' r (z + w) := by
 have zA := Cq.wA hz; have zB := Cq.wB hz; have zD := Cq.wD hz
 have wA := Cq.wA hw; have wB := Cq.wB hw; have wD := Cq.wD hw
 have zD' : wn (z.D : Int).natAbs ≤ 2 ^ 35 := zD
 have wD' : wn (w.D : Int).natAbs ≤ 2 ^ 35 := wD
 have s1 := j02 zA wD'; have s2 := j02 wA zD'; have s3 := j02 zB wD'; have s4 := j02 wB zD'
 have s5 := d08 s1 s2; have s6 := d08 s3 s4
 have s7 := K05 z.D w.D
 refine H0p x y V _ ((f01 hx).mono fun v V1 l1 ⟨r1, hv, h1⟩ => ⟨r1, hv, ?_⟩)
 replace hx := hx.le l1; replace hy := hy.le l1
 refine (f01 hy).mono fun v V2 l2 ⟨r2, hv, h2⟩ => ⟨r2, hv, ?_⟩
 replace hx := hx.le l2; replace hy := hy.le l2; replace h1 := h1.le l2
 refine (X00 hx.re h2 (by omega) (by omega)).mono fun v V3 l3 ⟨r3, hv, h3⟩ => ⟨r3, hv, ?_⟩
 replace hx := hx.le l3; replace hy := hy.le l3; replace h1 := h1.le l3; replace h2 := h2.le l3
 refine (X00 hy.re h1 (by omega) (by omega)).mono fun v V4 l4 ⟨r4, hv, h4⟩ => ⟨r4, hv, ?_⟩
 replace hx := hx.le l4; replace hy := hy.le l4; replace h1 := h1.le l4; replace h2 := h2.le l4; replace h3 := h3.le l4
 refine (l03 h3 h4 (by omega) (by omega)).mono fun v V5 l5 ⟨r5, hv, h5⟩ => ⟨r5, hv, ?_⟩
 replace hx := hx.le l5; replace hy := hy.le l5; replace h1 := h1.le l5; replace h2 := h2.le l5
 refine (X00 hx.im h2 (by omega) (by omega)).mono fun v V6 l6 ⟨r6, hv, h6⟩ => ⟨r6, hv, ?_⟩
 replace hy := hy.le l6; replace h1 := h1.le l6; replace h2 := h2.le l6; replace h5 := h5.le l6
 refine (X00 hy.im h1 (by omega) (by omega)).mono fun v V7 l7 ⟨r7, hv, h7⟩ => ⟨r7, hv, ?_⟩
 replace h1 := h1.le l7; replace h2 := h2.le l7; replace h5 := h5.le l7; replace h6 := h6.le l7
 refine (l03 h6 h7 (by omega) (by omega)).mono fun v V8 l8 ⟨r8, hv, h8⟩ => ⟨r8, hv, ?_⟩
 replace h1 := h1.le l8; replace h2 := h2.le l8; replace h5 := h5.le l8
 refine (N05 h1 h2 (by omega) (by omega)).mono fun v V9 l9 ⟨r9, hv, h9⟩ => ⟨r9, hv, ?_⟩
 exact (q03 (h5.le l9) (h8.le l9) h9 (z.canon.rep.add w.canon.rep) (by omega) (by omega) (by omega)).mono fun v V10 _ ⟨r, hv, hr⟩ => ⟨r, hv, r, rfl, hr⟩
theorem Y0c {V : View} {x : NumV} {z : Cq} (hx : S01 V x z) : a00 prog b0r #[x.val] V fun v V' => ∃ r : NumV, v = r.val ∧ S01 V' r (-z) := by
 obtain ⟨e1, e2, e3⟩ := z.neg_eqs
 refine I0p x V _ ((w03 hx.re).mono fun v V1 l1 ⟨r1, hv, h1⟩ => ⟨r1, hv, ?_⟩)
 exact (w03 (hx.im.le l1)).mono fun v V2 l2 ⟨r2, hv, h2⟩ => ⟨r2, hv, _, rfl, by rw [e1]; exact h1.le l2, by rw [e2]; exact h2, by rw [e3]; exact hx.under.le (View.le_trans l1 l2)⟩
theorem f0l {V : View} {x y : NumV} {z w : Cq} (hx : S01 V x z) (hy : S01 V y w) (hz : z.sz ≤ 2 ^ 40) (hw : w.sz ≤ 2 ^ 40) :
 a00 prog X0q #[x.val, y.val] V fun v V' => ∃ r : NumV, v = r.val ∧ S01 V' r (z - w) := by
 refine J0p x y V _ ((Y0c hy).mono fun v V1 l1 ⟨r1, hv, h1⟩ => ⟨r1, hv, ?_⟩)
 rw [Cq.sub_eq]
 exact (Y06 (hx.le l1) h1 hz (by rw [j09]; exact hw)).mono fun v V2 _ ⟨r, hv, hr⟩ => ⟨r, hv, r, rfl, hr⟩
theorem Z02 {V : View} {x y : NumV} {z w : Cq} (hx : S01 V x z) (hy : S01 V y w) (hz : z.sz ≤ 2 ^ 40) (hw : w.sz ≤ 2 ^ 40) :
 a00 prog a0r #[x.val, y.val] V fun v V' => ∃ r : NumV, v = r.val ∧ S01 V' r (z * w) := by
 have zA := Cq.wA hz; have zB := Cq.wB hz; have zD := Cq.wD hz
 have wA := Cq.wA hw; have wB := Cq.wB hw; have wD := Cq.wD hw
 have s1 := j02 zA wA; have s2 := j02 zB wB; have s2' := s0s s2; have s3 := j02 zA wB; have s4 := j02 zB wA
 have s5 := d08 s1 s2'; have s6 := d08 s3 s4
 have s7 := K05 z.D w.D
 refine K0p x y V _ ((U02 hx.re hy.re (by omega) (by omega)).mono fun v V1 l1 ⟨r1, hv, h1⟩ => ⟨r1, hv, ?_⟩)
 replace hx := hx.le l1; replace hy := hy.le l1
 refine (U02 hx.im hy.im (by omega) (by omega)).mono fun v V2 l2 ⟨r2, hv, h2⟩ => ⟨r2, hv, ?_⟩
 replace hx := hx.le l2; replace hy := hy.le l2; replace h1 := h1.le l2
 refine (w03 h2).mono fun v V3 l3 ⟨r3, hv, h3⟩ => ⟨r3, hv, ?_⟩
 replace hx := hx.le l3; replace hy := hy.le l3; replace h1 := h1.le l3
 refine (l03 h1 h3 (by omega) (by omega)).mono fun v V4 l4 ⟨r4, hv, h4⟩ => ⟨r4, hv, ?_⟩
 replace hx := hx.le l4; replace hy := hy.le l4
 refine (U02 hx.re hy.im (by omega) (by omega)).mono fun v V5 l5 ⟨r5, hv, h5⟩ => ⟨r5, hv, ?_⟩
 replace hx := hx.le l5; replace hy := hy.le l5; replace h4 := h4.le l5
 refine (U02 hx.im hy.re (by omega) (by omega)).mono fun v V6 l6 ⟨r6, hv, h6⟩ => ⟨r6, hv, ?_⟩
 replace hx := hx.le l6; replace hy := hy.le l6; replace h4 := h4.le l6; replace h5 := h5.le l6
 refine (l03 h5 h6 (by omega) (by omega)).mono fun v V7 l7 ⟨r7, hv, h7⟩ => ⟨r7, hv, ?_⟩
 replace hx := hx.le l7; replace hy := hy.le l7; replace h4 := h4.le l7
 refine (f01 hx).mono fun v V8 l8 ⟨r8, hv, h8⟩ => ⟨r8, hv, ?_⟩
 replace hy := hy.le l8; replace h4 := h4.le l8; replace h7 := h7.le l8
 refine (f01 hy).mono fun v V9 l9 ⟨r9, hv, h9⟩ => ⟨r9, hv, ?_⟩
 replace h4 := h4.le l9; replace h7 := h7.le l9; replace h8 := h8.le l9
 refine (N05 h8 h9 (by omega) (by omega)).mono fun v V10 l10 ⟨r10, hv, h10⟩ => ⟨r10, hv, ?_⟩
 refine (q03 (h4.le l10) (h7.le l10) h10 ?_ (by omega) (by omega) (by omega)).mono fun v V11 _ ⟨r, hv, hr⟩ => ⟨r, hv, r, rfl, hr⟩
 rw [← Int.sub_eq_add_neg]; exact z.canon.rep.mul w.canon.rep
theorem T0i {V : View} {x : NumV} {z : Cq} (hx : S01 V x z) : a00 prog i0p #[x.val] V fun v _ => v = .bool (decide (z.im = 0)) := by
 refine E0m x V _ ?_
 have h1 := hx.im.2.len_zero
 have h2 := Cq.B_zero (z := z)
 congr 1
 by_cases e : z.im = 0
 · have : x.im.mag.len = 0 := h1.2 (by rw [h2.2 e]; rfl)
   simp [e, this]
 · have : x.im.mag.len ≠ 0 := fun h => e (h2.1 (by have := h1.1 h; omega))
   simp only [e, decide_false, beq_eq_false_iff_ne, ne_eq]; omega
theorem Z08 {V : View} {x y : NumV} {z w : Cq} (hx : S01 V x z) (hy : S01 V y w) (hz : z.sz ≤ 2 ^ 40) (hw : w.sz ≤ 2 ^ 40) :
 a00 prog p0r #[x.val, y.val] V fun v _ => v = .int .i64 (z.cmp w) := by
 have zA := Cq.wA hz; have zB := Cq.wB hz; have zD := Cq.wD hz
 have wA := Cq.wA hw; have wB := Cq.wB hw; have wD := Cq.wD hw
 have zD' : wn (z.D : Int).natAbs ≤ 2 ^ 35 := zD
 have wD' : wn (w.D : Int).natAbs ≤ 2 ^ 35 := wD
 have s1 := j02 zA wD'; have s2 := j02 wA zD'; have s3 := j02 zB wD'; have s4 := j02 wB zD'
 have c1 : cmpZ (z.A * w.D) (w.A * z.D) = cmpR z.re w.re := by rw [G0r z.D_pos w.D_pos, ← z.canon.rep.re, ← w.canon.rep.re]
 have c2 : cmpZ (z.B * w.D) (w.B * z.D) = cmpR z.im w.im := by rw [G0r z.D_pos w.D_pos, ← z.canon.rep.im, ← w.canon.rep.im]
 refine L0p x y V _ ((f01 hy).mono fun v V1 l1 ⟨r1, hv, h1⟩ => ⟨r1, hv, ?_⟩)
 replace hx := hx.le l1; replace hy := hy.le l1
 refine (X00 hx.re h1 (by omega) (by omega)).mono fun v V2 l2 ⟨r2, hv, h2⟩ => ⟨r2, hv, ?_⟩
 replace hx := hx.le l2; replace hy := hy.le l2
 refine (f01 hx).mono fun v V3 l3 ⟨r3, hv, h3⟩ => ⟨r3, hv, ?_⟩
 replace hx := hx.le l3; replace hy := hy.le l3; replace h2 := h2.le l3
 refine (X00 hy.re h3 (by omega) (by omega)).mono fun v V4 l4 ⟨r4, hv, h4⟩ => ⟨r4, hv, ?_⟩
 replace hx := hx.le l4; replace hy := hy.le l4; replace h2 := h2.le l4
 refine (n0a h2 h4 (by omega) (by omega)).mono fun v V5 l5 hv => ⟨_, hv, fun hn => ?_, fun hn => ?_⟩
 · rw [c1] at hn ⊢
   have hn : cmpR z.re w.re ≠ 0 := by simpa using hn
   unfold Cq.cmp; rw [if_pos hn]
 · rw [c1] at hn
   have hn : ¬ cmpR z.re w.re ≠ 0 := by simpa using hn
   replace hx := hx.le l5; replace hy := hy.le l5
   refine (f01 hy).mono fun v V6 l6 ⟨r6, hv, h6⟩ => ⟨r6, hv, ?_⟩
   replace hx := hx.le l6; replace hy := hy.le l6
   refine (X00 hx.im h6 (by omega) (by omega)).mono fun v V7 l7 ⟨r7, hv, h7⟩ => ⟨r7, hv, ?_⟩
   replace hx := hx.le l7; replace hy := hy.le l7
   refine (f01 hx).mono fun v V8 l8 ⟨r8, hv, h8⟩ => ⟨r8, hv, ?_⟩
   replace hx := hx.le l8; replace hy := hy.le l8; replace h7 := h7.le l8
   refine (X00 hy.im h8 (by omega) (by omega)).mono fun v V9 l9 ⟨r9, hv, h9⟩ => ⟨r9, hv, ?_⟩
   replace h7 := h7.le l9
   refine (n0a h7 h9 (by omega) (by omega)).mono fun v V10 l10 hv => ⟨_, hv, ?_⟩
   unfold Cq.cmp; rw [if_neg hn, c2]

def ratC (_ : View) (x : List Value) (r : RatV) : Prop := x = r.val.cells.toList
def t0s (V : View) (s : Sl) (rs : List RatV) : Prop := P02 3 ratC V s rs
theorem t0s.le {V V' : View} (hle : V.le V') {s : Sl} {rs : List RatV} (h : t0s V s rs) : t0s V' s rs := P02.le (P := ratC) (V := V) (V' := V') (fun _ _ h => h) hle h
end Go.Proofs.YtkibfmnkkiakoaaGreat
namespace Go.Proofs.YtkibfmnkkiakoaaGreat
open Go Go.Vc Go.Proofs Go.ChangeShapes Go.RowKit
section
variable {H : Type} {enc : TypeId × Value → H} {P : Program} {w : World} {base : Nat} {spare : Nat → Bool} {held : Bool}
end
theorem a00.fits {P : Program} {f : FuncId} {args : Array Value} {r : Value} {V : View} (h : a00 P f args V fun v _ => v = r) {w : World} (hw : V.In w) :
 Calls P f args w fun e w' => e = .returned r ∧ Below w.heap.size w w' :=
 (h w hw).mono fun _ _ ⟨_, _, he, _, _, _, hb, hr⟩ => ⟨by rw [he, hr], hb⟩
theorem G0b {H : Type} {enc : TypeId × Value → H} {P : Program} (hl : laidOutB P = true) {W W' : World} (hb : Below W.heap.size W W') :
 ∀ {ts : List TypeId} {vs : List Value} {ds : List (DataW H)} {ps : List MemPlace}, (∀ t ∈ ts, P.readableRec t = true ∧ t < P.types.size) → (∀ p ∈ ps, p.block < W.heap.size) →
 DataW.TrodAll enc P W 0 (fun _ => true) true ts vs ds ps → DataW.TrodAll enc P W' 0 (fun b => decide (b < W.heap.size)) true ts vs ds ps
 | [], [], [], _, _, _, h => h
 | t :: ts, v :: vs, d :: ds, ps, ht, hlt, ⟨p, q, h1, h2, e⟩ => by
   subst e
   exact ⟨p, q, Below.trod hl (ht t (by simp)).1 (ht t (by simp)).2 h1 hb (fun x hx => hlt x (by simp [hx])),
    G0b hl hb (fun t' ht' => ht t' (by simp [ht'])) (fun x hx => hlt x (by simp [hx])) h2, rfl⟩
 | [], [], _ :: _, _, _, _, h => h.elim
 | [], _ :: _, _, _, _, _, h => h.elim
 | _ :: _, [], _, _, _, _, h => h.elim
 | _ :: _, _ :: _, [], _, _, _, h => h.elim
theorem g0l {H : Type} {enc : TypeId × Value → H} {P : Program} {f : Func} {s : ChangeSpec} {apart fresh handsOn : Bool} {W W' : World} {args : Array Value} {v : Value} {ds : List (DataW H)} {before : List MemPlace}
 (hl : laidOutB P = true) (ht : ∀ t ∈ f.params.toList, P.readableRec t = true ∧ t < P.types.size)
 (hW : DataW.Whole enc P f.params.toList s.vars apart W args.toList ds [] before) (hA : DataW.TrodAll enc P W 0 (fun _ => true) true f.params.toList args.toList ds before)
 (hres : ∀ (b : Nat) (sp : Nat → Bool) (hd : Bool), DataW.TrodAll enc P W' b sp hd f.resultTypes.toList (v.resultList f.resultTypes.size) (s.fn H (ds ++ [])).results [])
 (hargs : (s.fn H (ds ++ [])).args = ds) (hvars : ∀ sp : Nat → Bool, DataW.TrodVars enc P W' sp s.vars (s.fn H (ds ++ [])).vars []) (hb : Below W.heap.size W W') : s.post enc P f apart fresh handsOn false W args v W' := by
 refine ⟨ds, [], before, [], before, [], hW, hres _ _ _, ?_, hvars _, World.keptBut_mono (fun p hp => ⟨hp, .inr (.inl hp)⟩) (hb.frame (· ∈ before)), fun h => Bool.noConfusion h⟩
 rw [hargs]
 exact G0b hl hb ht (fun p hp => hW.lt p hp) hA
end Go.Proofs.YtkibfmnkkiakoaaGreat
namespace Go.Vc
open Go
theorem D0l {w : World} : View.In (fun _ => none) w := by intro b cs h; cases h
end Go.Vc
namespace Go.Proofs.YtkibfmnkkiakoaaGreat
open Go Go.Vc Go.Proofs Go.ChangeShapes Go.RowKit
inductive FK where
 | int (k : IntKind)
 | bool
def FK.ok : FK → Value → Prop
 | .int k, v => ∃ n, v = .int k n ∧ (Lit.int k n).wf = true
 | .bool, v => ∃ b, v = .bool b
def H0b : List FK → List Value → Prop
 | [], [] => True
 | f :: fs, v :: vs => f.ok v ∧ H0b fs vs
 | _, _ => False
theorem H0b.append : ∀ {l l' : List FK} {v v' : List Value}, H0b l v → H0b l' v' → H0b (l ++ l') (v ++ v')
 | [], _, [], _, _, h => h
 | _ :: _, _, _ :: _, _, ⟨h1, h2⟩, h => ⟨h1, H0b.append h2 h⟩
 | [], _, _ :: _, _, h, _ => h.elim
 | _ :: _, _, [], _, h, _ => h.elim
theorem H0b.length : ∀ {l : List FK} {v : List Value}, H0b l v → v.length = l.length
 | [], [], _ => rfl
 | _ :: _, _ :: _, ⟨_, h⟩ => by simp [H0b.length h]
 | [], _ :: _, h => h.elim
 | _ :: _, [], h => h.elim
def i0l (P : Program) (F : TypeId → Option (List FK)) : List Field → Nat → Option (List FK)
 | [], _ => some []
 | f :: fs, off => match F f.type, i0l P F fs (off + P.cellsOf f.type) with
   | some l, some r => if f.offset = off ∧ l.length = P.cellsOf f.type then some (l ++ r) else none
   | _, _ => none
def U0i (P : Program) : Nat → TypeId → Option (List FK)
 | 0, _ => none
 | d + 1, t => match P.underlying t with
   | some (.int k) => some [.int k]
   | some .bool => some [.bool]
   | some (.struct fs) => match i0l P (U0i P d) fs.toList 0 with
     | some l => if l.length = P.cellsOf t then some l else none
     | none => none
   | some (.array n e) => match U0i P d e with
     | some l => if l.length = P.cellsOf e ∧ n * l.length = P.cellsOf t then some (List.replicate n l).flatten else none
     | none => none
   | _ => none
section
variable {H : Type} {enc : TypeId × Value → H} {P : Program} {w : World} {base : Nat} {spare : Nat → Bool} {held : Bool}
theorem N0e {F : TypeId → Option (List FK)} {n : Nat} (hF : ∀ t l cs x, F t = some l → DataW.trod enc P w base spare held n t cs = some x → H0b l cs) {cs : List Value} {xs : List (DataW H × List MemPlace)} {all : List Field} (hxs : xs.length = all.length)
 (hf : ∀ (i : Nat) (f : Field), all[i]? = some f → DataW.trod enc P w base spare held n f.type ((cs.drop f.offset).take (P.cellsOf f.type)) = xs[i]?) :
 ∀ (fs pre : List Field) (off : Nat) (l : List FK), all = pre ++ fs → i0l P F fs off = some l → cs.length = off + l.length → H0b l (cs.drop off)
 | [], pre, off, l, he, h, hl => by
   simp only [i0l, Option.some.injEq] at h
   subst h
   rw [List.drop_eq_nil_of_le (by simp at hl; omega)]; trivial
 | f :: fs, pre, off, l, he, h, hl => by
   simp only [i0l] at h
   split at h
   · rename_i l1 r h1 h2
     split at h
     · rename_i hc
       obtain ⟨rfl, hlen⟩ := hc
       simp only [Option.some.injEq] at h
       subst h
       have hi : all[pre.length]? = some f := by rw [he]; simp
       have g := hf _ f hi
       have hx : pre.length < xs.length := by rw [hxs, he]; simp
       rw [List.getElem?_eq_getElem hx] at g
       have a1 := hF _ _ _ _ h1 g
       have a2 := N0e hF hxs hf fs (pre ++ [f]) (f.offset + P.cellsOf f.type) r (by rw [he]; simp) h2 (by rw [List.length_append] at hl; omega)
       have e : cs.drop f.offset = (cs.drop f.offset).take (P.cellsOf f.type) ++ cs.drop (f.offset + P.cellsOf f.type) := by
        rw [← List.drop_drop, List.take_append_drop]
       rw [e]; exact a1.append a2
     · simp at h
   · simp at h
theorem s0c : ∀ (d : Nat) (fuel : Nat) (t : TypeId) (l : List FK) (cs : List Value) (x : DataW H × List MemPlace), U0i P d t = some l → DataW.trod enc P w base spare held fuel t cs = some x → H0b l cs
 | 0, _, _, _, _, _, h, _ => by simp [U0i] at h
 | d + 1, fuel, t, l, cs, x, h, hx => by
   simp only [U0i] at h
   split at h
   · rename_i k hu
     obtain ⟨n, rfl, _, hw⟩ := DataW.trod_int hu hx
     simp only [Option.some.injEq] at h
     subst h
     exact ⟨⟨n, rfl, hw⟩, trivial⟩
   · rename_i hu
     obtain ⟨b, rfl, _⟩ := DataW.trod_bool hu hx
     simp only [Option.some.injEq] at h
     subst h
     exact ⟨⟨b, rfl⟩, trivial⟩
   · rename_i fs hu
     obtain ⟨xs, n, rfl, _, hl, hxs, hf⟩ := DataW.trod_struct hu hx
     split at h
     · rename_i l1 h1
       split at h
       · rename_i hc
         simp only [Option.some.injEq] at h
         subst h
         have := N0e (F := U0i P d) (fun t l cs x h1 h2 => s0c d n t l cs x h1 h2) (all := fs.toList) (by simpa using hxs) (fun i f hi => hf i f (by simpa using hi)) fs.toList [] 0 l1 rfl h1 (by omega)
         simpa using this
       · simp at h
     · simp at h
   · rename_i n e hu
     obtain ⟨xs, m, rfl, _, hl, hxs, hf⟩ := DataW.trod_array hu hx
     split at h
     · rename_i l1 h1
       split at h
       · rename_i hc
         obtain ⟨c1, c2⟩ := hc
         simp only [Option.some.injEq] at h
         subst h
         have key : ∀ j, j ≤ n → H0b (List.replicate j l1).flatten (cs.take (j * P.cellsOf e)) := by
          intro j
          induction j with
          | zero => intro _; simp; trivial
          | succ j ih =>
            intro hj
            have a1 := ih (by omega)
            have g := hf j (by omega)
            rw [List.getElem?_eq_getElem (by omega : j < xs.length)] at g
            have a2 := s0c d m e l1 _ _ h1 g
            have e1 : cs.take ((j + 1) * P.cellsOf e) = cs.take (j * P.cellsOf e) ++ (cs.drop (j * P.cellsOf e)).take (P.cellsOf e) := by
             rw [Nat.add_mul, Nat.one_mul, List.take_add]
            have e2 : (List.replicate (j + 1) l1).flatten = (List.replicate j l1).flatten ++ l1 := by
             rw [List.replicate_succ']; simp
            rw [e1, e2]; exact a1.append a2
         have := key n (Nat.le_refl _)
         rw [List.take_of_length_le (by rw [hl, ← c2, c1]; exact Nat.le_refl _)] at this
         exact this
       · simp at h
     · simp at h
   · simp at h
theorem u0s {t : TypeId} {v : Value} {dd : DataW H} {ps : List MemPlace} {l : List FK} (hk : U0i P 8 t = some l) (h : DataW.Trod enc P w base spare held t v dd ps) : H0b l v.cells.toList := by
 obtain ⟨fuel, h⟩ := h
 exact s0c 8 fuel t l _ _ hk h
end
theorem j0l {v : Value} {l : List Value} (h : v.cells.toList = l) (hl : l.length ≠ 1) : v = .agg l.toArray := by
 cases v with
 | agg cs => have : cs.toList = l := h
             rw [← this]
 | _ => exact absurd (by rw [← h]; rfl) hl

theorem U64.of {n : Int} (h : (Lit.int .u64 n).wf = true) : U64 n := by
 have h := bounds_u64 h
 exact ⟨h.1, by have := h.2; omega⟩
section
variable {H : Type} {enc : TypeId × Value → H} {P : Program} {w : World} {base : Nat} {spare : Nat → Bool} {held : Bool} {t : TypeId} {v : Value} {dd : DataW H} {ps : List MemPlace}
theorem w0s (hk : U0i P 8 t = some [.int .u64, .int .u64, .int .u64, .int .u64]) (h : DataW.Trod enc P w base spare held t v dd ps) :
 ∃ a b c d : Int, v = .agg #[.int .u64 a, .int .u64 b, .int .u64 c, .int .u64 d] ∧ U64 a ∧ U64 b ∧ U64 c ∧ U64 d := by
 have h := u0s hk h
 match hc : v.cells.toList, h with
 | [_, _, _, _], ⟨⟨n, e1, a1⟩, ⟨m, e2, a2⟩, ⟨k, e3, a3⟩, ⟨j, e4, a4⟩, _⟩ =>
   subst e1; subst e2; subst e3; subst e4
   exact ⟨n, m, k, j, j0l hc (by simp), U64.of a1, U64.of a2, U64.of a3, U64.of a4⟩
theorem o0q (hk : U0i P 8 t = some [.int .u64, .int .u64, .int .u64, .int .u64]) (h : DataW.Trod enc P w base spare held t v dd ps) :
 ∃ x : y08, v = x.val ∧ x.u64 := by
 obtain ⟨a, b, c, d, e, h1, h2, h3, h4⟩ := w0s hk h
 exact ⟨⟨⟨a, b⟩, ⟨c, d⟩⟩, e, h1, h2, h3, h4⟩
end
end Go.Proofs.YtkibfmnkkiakoaaGreat
namespace Go.Proofs.YtkibfmnkkiakoaaGreat
open Go Go.Vc Go.Proofs
open Go.Proofs.Tryz (prog)
open Go.IntKind (i64 u64 u32 u8)
theorem fd32 (z : Nat) : Int.fdiv (z : Int) (2 ^ (min (Int.toNat 32) (u64.bits))) = ((z / 4294967296 : Nat) : Int) := by
 have e2 : (2 : Int) ^ (min (Int.toNat 32) (u64.bits)) = 4294967296 := by decide
 rw [e2, Int.fdiv_eq_ediv_of_nonneg _ (by omega)]; omega
theorem fd63 (z : Nat) : Int.fdiv (z : Int) (2 ^ (min (Int.toNat 63) (u64.bits))) = ((z / 9223372036854775808 : Nat) : Int) := by
 have e2 : (2 : Int) ^ (min (Int.toNat 63) (u64.bits)) = 9223372036854775808 := by decide
 rw [e2, Int.fdiv_eq_ediv_of_nonneg _ (by omega)]; omega
theorem u32n (z : Nat) : u32.wrap (z : Int) = ((z % 4294967296 : Nat) : Int) := by rw [u32m]; omega
theorem u64n {z : Nat} (h : z < 18446744073709551616) : u64.wrap (z : Int) = (z : Int) := u64w (by omega) (by omega)
theorem x0s (c : Prop) [Decidable c] (a : Option Addr) : (if c then a else Option.map (fun q => Addr.add q (Int.toNat 0 * 1)) a) = a := by
 have e : (fun q : Addr => Addr.add q (Int.toNat 0 * 1)) = id := by funext q; simp [Addr.add]
 rw [e]; simp
theorem d02 {V : View} {s : Sl} {l : List Nat} (h : A00 V s l) (hs : l.length ≤ 2 ^ 50) :
 a00 prog y0m #[s.v] V fun v V' => ∃ r : Sl, v = r.v ∧ e00 V' r (wval l) := by
 have hlen := h.len
 refine x0k s V _ (fun _ x _ => 0 ≤ x.t3 ∧ x.t3 ≤ s.len ∧ ∀ d ∈ l.drop x.t3.toNat, d = 0) (fun _ x _ => x.t3.toNat) ⟨⟨Int.natCast_nonneg _, Int.le_refl _, ?_⟩, ?_⟩
 · intro d hd
   simp only [Int.toNat_natCast, hlen, List.drop_length] at hd
   simp at hd
 rintro ⟨t⟩ V1 hle ⟨h0, h1, h2⟩
 simp only at h0 h1 h2 ⊢
 have hcap := h.cap
 -- what is handed back
 have out : t = 0 ∨ l.getD (t.toNat - 1) 0 ≠ 0 → e00 V1 (Sl.mk (if s.cap = Int.toNat 0 then s.a else Option.map (fun q => Addr.add q (Int.toNat 0 * 1)) s.a) (Int.toNat t - Int.toNat 0) (s.cap - Int.toNat 0)) (wval l) := by
  intro hz
  have hw : wval l = wval (l.take t.toNat) := by
   rw [w0b l t.toNat, L0c h2]; omega
  rw [hw, x0s]
  refine A00.nat ⟨?_, ?_, ?_, h.wb.take _⟩ ?_
  · intro i d hi
    have hi' : i < t.toNat := by
     rcases Nat.lt_or_ge i t.toNat with h | h
     · exact h
     · rw [List.getElem?_eq_none (by simp; omega)] at hi; simp at hi
    rw [List.getElem?_take_of_lt hi'] at hi
    exact m02 hle (h.load i d hi)
  · simp; omega
  · simp only [Int.toNat_zero]; omega
  · intro d hd
    rcases hz with rfl | hz
    · simp at hd
    · have h3 : t.toNat ≠ 0 := by
        intro e; rw [e] at hd; simp at hd
      rw [List.getLast?_eq_getElem?] at hd
      have h4 : (l.take t.toNat).length = t.toNat := by simp; omega
      rw [h4, List.getElem?_take_of_lt (by omega)] at hd
      simp only [List.getD, hd, Option.getD_some] at hz
      exact hz
 refine ⟨fun hp => ?_, fun hp => ⟨by simp, fun _ => ⟨⟨by omega, by omega, by omega⟩, _, rfl, out (.inl ?_)⟩⟩⟩
 · simp only [decide_eq_true_eq] at hp
   rw [i64w (by omega) (by omega)]
   refine ⟨⟨by omega, by omega, h.isSome (by omega)⟩, _, (h.le hle).get (by omega) (by omega), fun hz => ?_, fun hz => ⟨⟨by omega, by omega, by omega⟩, _, rfl, out (.inr ?_)⟩⟩
   · simp only [beq_iff_eq] at hz
     refine ⟨⟨by omega, by omega, fun d hd => ?_⟩, by omega⟩
     have hlt : (t - 1).toNat < l.length := by omega
     rw [List.drop_eq_getElem_cons hlt] at hd
     rcases List.mem_cons.1 hd with rfl | hd
     · simp only [List.getD, List.getElem?_eq_getElem hlt, Option.getD_some] at hz; omega
     · exact h2 d (by rw [show (t - 1).toNat + 1 = t.toNat by omega] at hd; exact hd)
   · simp only [beq_eq_false_iff_ne, ne_eq] at hz
     rw [show t.toNat - 1 = (t - 1).toNat by omega]
     intro e; rw [e] at hz; exact hz rfl
 · simp only [decide_eq_false_iff_not] at hp; omega
theorem m03 {V : View} {n : Int} (h0 : 0 ≤ n) (h1 : n ≤ 18446744073709551615) :
 a00 prog D0c #[.int .u64 n] V fun v V' => ∃ r : Sl, v = r.v ∧ e00 V' r n.toNat := by
 refine j0i n V _ fun b V1 hle _ hb => ?_
 obtain ⟨m, rfl⟩ : ∃ m : Nat, n = m := ⟨n.toNat, by omega⟩
 rw [fd32, u32n, u32n, Nat.mod_eq_of_lt (show m / 4294967296 < 4294967296 by omega)] at hb
 have hw : A00 V1 (Sl.mk (some (Addr.mk b 0 none)) 2 2) [m % 4294967296, m / 4294967296] :=
  A00.of_block (by rw [hb]; rfl) rfl (by omega) (by intro d hd; simp at hd; omega)
 refine (d02 hw (by simp)).mono fun v V' _ ⟨r, hv, hr⟩ => ⟨r, hv, _, rfl, ?_⟩
 have : wval [m % 4294967296, m / 4294967296] = (m : Int).toNat := by simp [wval]; omega
 rw [this] at hr; exact hr
theorem W02 {V : View} {s t : Sl} {a b : Nat} (hs : e00 V s a) (ht : e00 V t b) (hb : wn a ≤ 2 ^ 50) :
 a00 prog N0h #[s.v, t.v] V fun v _ => v = .int .i64 (if a < b then -1 else if a = b then 0 else 1) := by
 have h1 := hs.len
 have h2 := ht.len
 simp only [wn] at hb
 refine M0f s t V _ (fun _ x _ => -1 ≤ x.t5 ∧ x.t5 < s.len ∧ (dig a).drop (x.t5 + 1).toNat = (dig b).drop (x.t5 + 1).toNat) (fun _ x _ => (x.t5 + 1).toNat) ⟨fun hne => ⟨fun hlt => ?_, fun hlt => ?_⟩, fun he => ⟨?_, ?_⟩⟩
 · have := F09 (a := a) (b := b) (by simpa [h1, h2] using hlt)
   simp [this]
 · have hne : ¬ (s.len : Int) = t.len := by simpa using hne
   have hlt : ¬ s.len < t.len := by simpa using hlt
   have := F09 (a := b) (b := a) (by omega)
   rw [if_neg (by omega), if_neg (by omega)]
 · have he : (s.len : Int) = t.len := by simpa using he
   rw [i64w (by omega) (by omega)]
   refine ⟨?_, ?_, ?_⟩
   · show (-1 : Int) ≤ s.len - 1; omega
   · show (s.len : Int) - 1 < s.len; omega
   · rw [List.drop_eq_nil_of_le, List.drop_eq_nil_of_le] <;> simp <;> omega
 · have he : (s.len : Int) = t.len := by simpa using he
   rintro ⟨i⟩ V1 hle ⟨i0, i1, hd⟩
   simp only at i0 i1 hd ⊢
   refine ⟨fun hp => ?_, fun hp => ?_⟩
   · simp only [ge_iff_le, decide_eq_true_eq] at hp
     refine ⟨⟨by omega, by omega, hs.isSome (by omega)⟩, _, (hs.le hle).get (by omega) (by omega), ⟨by omega, by omega, ht.isSome (by omega)⟩, _, (ht.le hle).get (by omega) (by omega), fun hne =>
      ⟨⟨by omega, by omega, hs.isSome (by omega)⟩, _, (hs.le hle).get (by omega) (by omega), ⟨by omega, by omega, ht.isSome (by omega)⟩, _, (ht.le hle).get (by omega) (by omega), fun hlt => ?_, fun hge => ?_⟩, fun heq => ?_⟩
     · have hlt : (dig a).getD i.toNat 0 < (dig b).getD i.toNat 0 := by simpa using hlt
       have := G09 (i02 a) (by omega) (i := i.toNat) (by omega) (by rw [show i.toNat + 1 = (i + 1).toNat by omega]; exact hd) hlt
       rw [o00, o00] at this
       simp [this]
     · have hne : ¬ (dig a).getD i.toNat 0 = (dig b).getD i.toNat 0 := by
         intro e; rw [e] at hne; simp at hne
       have hge : ¬ (dig a).getD i.toNat 0 < (dig b).getD i.toNat 0 := by simpa using hge
       have := G09 (i02 b) (by omega) (i := i.toNat) (by omega) (by rw [show i.toNat + 1 = (i + 1).toNat by omega]; exact hd.symm) (by omega : (dig b).getD i.toNat 0 < (dig a).getD i.toNat 0)
       rw [o00, o00] at this
       rw [if_neg (by omega), if_neg (by omega)]
     · have heq : (((dig a).getD i.toNat 0 : Nat) : Int) = (((dig b).getD i.toNat 0 : Nat) : Int) := by simpa using heq
       rw [i64w (by omega) (by omega)]
       refine ⟨⟨by show (-1 : Int) ≤ i - 1; omega, by show i - 1 < (s.len : Int); omega, ?_⟩, by show (i - 1 + 1).toNat < (i + 1).toNat; omega⟩
       have e : (i - 1 + 1).toNat = i.toNat := by omega
       show (dig a).drop (i - 1 + 1).toNat = (dig b).drop (i - 1 + 1).toNat
       rw [e, List.drop_eq_getElem_cons (by omega : i.toNat < (dig a).length), List.drop_eq_getElem_cons (by omega : i.toNat < (dig b).length)]
       have e2 : i.toNat + 1 = (i + 1).toNat := by omega
       rw [e2, hd]
       congr 1
       simp only [List.getD, List.getElem?_eq_getElem (by omega : i.toNat < (dig a).length), List.getElem?_eq_getElem (by omega : i.toNat < (dig b).length), Option.getD_some] at heq
       omega
   · simp only [ge_iff_le, decide_eq_false_iff_not] at hp
     have e : (i + 1).toNat = 0 := by omega
     rw [e] at hd
     have := p0s (by simpa using hd)
     subst this
     simp
theorem a06 {V : View} {s t : Sl} {a b : Nat} (hs : e00 V s a) (ht : e00 V t b) (ha : wn a ≤ 2 ^ 45) (hb : wn b ≤ 2 ^ 45) :
 a00 prog f0b #[s.v, t.v] V fun v V' => ∃ r : Sl, v = r.v ∧ e00 V' r (a + b) := by
 refine N0f s t V _ (fun _ x V' => ∃ a' b', e00 V' x.t0 a' ∧ e00 V' x.t1 b' ∧ a' + b' = a + b ∧ wn a' ≤ 2 ^ 45 ∧ x.t1.len ≤ x.t0.len)
  (fun c x V' => ∃ a' b' l k, e00 V' c.t0 a' ∧ e00 V' c.t1 b' ∧ a' + b' = a + b ∧ c.t1.len ≤ c.t0.len ∧ x.o19 = wv l ∧ WB l ∧ l.length = c.t0.len + 1 ∧ x.t6 = (k : Nat) ∧ k ≤ 1 ∧ 0 ≤ x.t7 ∧ x.t7 ≤ c.t0.len ∧
    wval (l.take x.t7.toNat) + k * 4294967296 ^ x.t7.toNat = wval ((dig a').take x.t7.toNat) + wval ((dig b').take x.t7.toNat))
  (fun c x _ => (c.t0.len - x.t7).toNat) ⟨⟨fun h => ⟨b, a, ht, hs, by omega, hb, ?_⟩, fun h => ⟨a, b, hs, ht, rfl, ha, ?_⟩⟩, ?_⟩
 · have : s.len < t.len := by simpa using h
   exact Nat.le_of_lt this
 · have : ¬ s.len < t.len := by simpa using h
   exact Nat.le_of_not_lt this
 rintro ⟨x, y⟩ V1 hle ⟨a', b', hx, hy, hab, hwa, hlen⟩
 simp only at hx hy hlen ⊢
 have hxl := hx.len
 have hyl := hy.len
 simp only [wn] at hwa
 rw [i64w (n := (x.len : Int) + 1) (by omega) (by omega)]
 refine ⟨⟨by omega, by omega, by omega, by omega⟩, ⟨a', b', List.replicate (x.len + 1) 0, 0, hx, hy, hab, hlen, ?_, WB.zeros _, by simp, rfl, by omega, Int.le_refl _, by show (0 : Int) ≤ x.len; omega, by simp [wval]⟩, ?_⟩
 · show (List.replicate (Int.toNat ((x.len : Int) + 1)) [Value.int .u32 0]).flatten = _
   rw [show Int.toNat ((x.len : Int) + 1) = x.len + 1 by omega, N02]
 rintro ⟨k, i, o⟩ V2 hle2 ⟨a2, b2, l, k', hx2, hy2, hab2, _, ho, hwb, hl, hk, hk1, hi0, hi1, hval⟩
 simp only at ho hk hi0 hi1 hval hx2 hy2 hl ⊢
 obtain rfl := hx2.inj (hx.le hle2)
 obtain rfl := hy2.inj (hy.le hle2)
 subst hk
 refine ⟨fun hp => ?_, fun hp => ?_⟩
 · simp only [decide_eq_true_eq] at hp
   -- one more word, whatever stands there in the shorter one
   have step : ∀ (z : Nat), z = (dig a2).getD i.toNat 0 + (dig b2).getD i.toNat 0 + k' → z < 8589934592 →
    (∃ a' b' l k, e00 V2 x a' ∧ e00 V2 y b' ∧ a' + b' = a + b ∧ y.len ≤ x.len ∧ List.set o (0 + Int.toNat i * 1) (.int .u32 ((z % 4294967296 : Nat) : Int)) = wv l ∧ WB l ∧ l.length = x.len + 1 ∧ ((z / 4294967296 : Nat) : Int) = (k : Nat) ∧ k ≤ 1 ∧ 0 ≤ i + 1 ∧ i + 1 ≤ x.len ∧
      wval (l.take (i + 1).toNat) + k * 4294967296 ^ (i + 1).toNat = wval ((dig a').take (i + 1).toNat) + wval ((dig b').take (i + 1).toNat)) := by
    intro z hz hlt
    refine ⟨a2, b2, l.set i.toNat (z % 4294967296), z / 4294967296, hx2, hy2, hab, hlen, ?_, hwb.set (by omega), by simpa using hl, rfl, by omega, by omega, by omega, ?_⟩
    · rw [ho, show 0 + Int.toNat i * 1 = i.toNat by omega, O02]
    · rw [show (i + 1).toNat = i.toNat + 1 by omega, Y03 (by omega), f00, f00, Nat.pow_succ]
      have hrc : z % 4294967296 + z / 4294967296 * 4294967296 = (dig a2).getD i.toNat 0 + (dig b2).getD i.toNat 0 + k' := by omega
      have := congrArg (· * 4294967296 ^ i.toNat) hrc
      simp only [Nat.add_mul] at this
      grind
   have w1 := hx2.getD_lt i.toNat
   have w2 := hy2.getD_lt i.toNat
   rw [i64w (n := i + 1) (by omega) (by omega)]
   refine ⟨⟨by omega, by omega, hx.isSome (by omega)⟩, _, hx2.get (by omega) (by omega), fun hp2 => ?_, fun hp2 => ?_⟩
   · simp only [decide_eq_true_eq] at hp2
     refine ⟨⟨by omega, by omega, hy.isSome (by omega)⟩, _, hy2.get (by omega) (by omega), ⟨by omega, by omega⟩, by rw [ho, g00]; omega, ?_⟩
     rw [u64n (z := (dig a2).getD i.toNat 0) (by omega), u64n (z := (dig b2).getD i.toNat 0) (by omega), ← Int.natCast_add, u64n (by omega), ← Int.natCast_add, u64n (by omega), fd32, u32n]
     have g := step ((dig a2).getD i.toNat 0 + k' + (dig b2).getD i.toNat 0) (by omega) (by omega)
     exact ⟨g, by show ((x.len : Int) - (i + 1)).toNat < ((x.len : Int) - i).toNat; omega⟩
   · simp only [decide_eq_false_iff_not] at hp2
     have w2 : (dig b2).getD i.toNat 0 = 0 := by simp only [List.getD]; rw [List.getElem?_eq_none (by omega)]; rfl
     refine ⟨⟨by omega, by omega⟩, by rw [ho, g00]; omega, ?_⟩
     rw [u64n (z := (dig a2).getD i.toNat 0) (by omega), ← Int.natCast_add, u64n (by omega), fd32, u32n]
     have g := step ((dig a2).getD i.toNat 0 + k') (by omega) (by omega)
     exact ⟨g, by show ((x.len : Int) - (i + 1)).toNat < ((x.len : Int) - i).toNat; omega⟩
 · simp only [decide_eq_false_iff_not] at hp
   refine ⟨⟨by omega, by omega⟩, by rw [ho, g00]; omega, fun b1 V5 hle5 hb => ?_⟩
   have hi : i.toNat = x.len := by omega
   have ek : u32.wrap (k' : Int) = (k' : Int) := u32w (by omega) (by omega)
   have hw : A00 V5 (Sl.mk (some (Addr.mk b1 0 none)) (Int.toNat ((x.len : Int) + 1)) (Int.toNat ((x.len : Int) + 1))) (l.set x.len k') :=
    A00.of_block (by rw [hb, ho, show 0 + Int.toNat (x.len : Int) * 1 = x.len by omega, ek, O02]) (by simp; omega) (Nat.le_refl _) (hwb.set (by omega))
   refine (d02 hw (by simp; omega)).mono fun v V6 _ ⟨r, hv, hr⟩ => ⟨r, hv, r, rfl, ?_⟩
   have e : wval (l.set x.len k') = a + b := by
    have h1 : (l.set x.len k') = (l.set x.len k').take (x.len + 1) := by rw [List.take_of_length_le]; simp; omega
    rw [h1, Y03 (by omega)]
    rw [hi, j00 (l := dig a2) (by omega), j00 (l := dig b2) (by omega), o00, o00] at hval
    omega
   rw [e] at hr; exact hr
theorem D0w {A B k : Nat} (hA : A < 4294967296) (hB : B < 4294967296) (hk : k ≤ 1) :
 ∃ r c : Nat, Int.fdiv (u64.wrap ((u64.wrap ((A : Int) - (k : Int))) - (B : Int))) (2 ^ (min (Int.toNat 63) (u64.bits))) = (c : Int) ∧
  u32.wrap (u64.wrap ((u64.wrap ((A : Int) - (k : Int))) - (B : Int))) = (r : Int) ∧ r + B + k = A + c * 4294967296 ∧ r < 4294967296 ∧ c ≤ 1 := by
 have e : u64.wrap ((u64.wrap ((A : Int) - (k : Int))) - (B : Int)) = (((A : Int) - k - B) % 18446744073709551616) := by
  rw [u64m, u64m]; omega
 rw [e]
 obtain ⟨m, hm⟩ : ∃ m : Nat, ((A : Int) - k - B) % 18446744073709551616 = m := ⟨(((A : Int) - k - B) % 18446744073709551616).toNat, by omega⟩
 rw [hm, fd63, u32n]
 exact ⟨m % 4294967296, m / 9223372036854775808, rfl, rfl, by omega, by omega, by omega⟩
theorem m08 {V : View} {s t : Sl} {a b : Nat} (hs : e00 V s a) (ht : e00 V t b) (ha : wn a ≤ 2 ^ 45) (hba : b ≤ a) :
 a00 prog O0h #[s.v, t.v] V fun v V' => ∃ r : Sl, v = r.v ∧ e00 V' r (a - b) := by
 have hsl := hs.len
 have htl := ht.len
 have hwn := X04 hba
 simp only [wn] at ha hwn
 refine O0f s t V _
  (fun _ x V' => ∃ l k : _, x.o11 = wv l ∧ WB l ∧ l.length = s.len ∧ x.t6 = (k : Nat) ∧ k ≤ 1 ∧ 0 ≤ x.t7 ∧ x.t7 ≤ s.len ∧
    wval (l.take x.t7.toNat) + wval ((dig b).take x.t7.toNat) = wval ((dig a).take x.t7.toNat) + k * 4294967296 ^ x.t7.toNat)
  (fun _ x _ => (s.len - x.t7).toNat) ⟨⟨by omega, by omega, by omega, by omega⟩, ⟨List.replicate s.len 0, 0, ?_, WB.zeros _, by simp, rfl, by omega, Int.le_refl _, by show (0 : Int) ≤ s.len; omega, by simp [wval]⟩, ?_⟩
 · show (List.replicate (Int.toNat (s.len : Int)) [Value.int .u32 0]).flatten = _
   rw [Int.toNat_natCast, N02]
 rintro ⟨k, i, o⟩ V2 hle2 ⟨l, k', ho, hwb, hl, hk, hk1, hi0, hi1, hval⟩
 simp only at ho hk hi0 hi1 hval hl ⊢
 subst hk
 have hx2 := hs.le hle2
 have hy2 := ht.le hle2
 refine ⟨fun hp => ?_, fun hp => ?_⟩
 · simp only [decide_eq_true_eq] at hp
   have step : ∀ (r c : Nat), r + (dig b).getD i.toNat 0 + k' = (dig a).getD i.toNat 0 + c * 4294967296 → r < 4294967296 → c ≤ 1 →
    (∃ l k : _, List.set o (0 + Int.toNat i * 1) (.int .u32 (r : Nat)) = wv l ∧ WB l ∧ l.length = s.len ∧ (c : Int) = (k : Nat) ∧ k ≤ 1 ∧ 0 ≤ i + 1 ∧ i + 1 ≤ s.len ∧
      wval (l.take (i + 1).toNat) + wval ((dig b).take (i + 1).toNat) = wval ((dig a).take (i + 1).toNat) + k * 4294967296 ^ (i + 1).toNat) := by
    intro r c hrc hr hc
    refine ⟨l.set i.toNat r, c, ?_, hwb.set hr, by simpa using hl, rfl, hc, by omega, by omega, ?_⟩
    · rw [ho, show 0 + Int.toNat i * 1 = i.toNat by omega, O02]
    · rw [show (i + 1).toNat = i.toNat + 1 by omega, Y03 (by omega), f00, f00, Nat.pow_succ]
      have := congrArg (· * 4294967296 ^ i.toNat) hrc
      simp only [Nat.add_mul] at this
      grind
   have w1 := hx2.getD_lt i.toNat
   have w2 := hy2.getD_lt i.toNat
   rw [i64w (n := i + 1) (by omega) (by omega)]
   refine ⟨⟨by omega, by omega, hs.isSome (by omega)⟩, _, hx2.get (by omega) (by omega), fun hp2 => ?_, fun hp2 => ?_⟩
   · simp only [decide_eq_true_eq] at hp2
     refine ⟨⟨by omega, by omega, ht.isSome (by omega)⟩, _, hy2.get (by omega) (by omega), ⟨by omega, by omega⟩, by rw [ho, g00]; omega, ?_⟩
     obtain ⟨r, c, e1, e2, e3, e4, e5⟩ := D0w w1 w2 hk1
     rw [u64n (z := (dig a).getD i.toNat 0) (by omega), u64n (z := (dig b).getD i.toNat 0) (by omega), e1, e2]
     exact ⟨step r c e3 e4 e5, by show ((s.len : Int) - (i + 1)).toNat < ((s.len : Int) - i).toNat; omega⟩
   · simp only [decide_eq_false_iff_not] at hp2
     have w2 : (dig b).getD i.toNat 0 = 0 := by simp only [List.getD]; rw [List.getElem?_eq_none (by omega)]; rfl
     refine ⟨⟨by omega, by omega⟩, by rw [ho, g00]; omega, ?_⟩
     obtain ⟨r, c, e1, e2, e3, e4, e5⟩ := D0w w1 (show 0 < 4294967296 by omega) hk1
     have e0 : u64.wrap ((u64.wrap ((((dig a).getD i.toNat 0 : Nat) : Int) - (k' : Int))) - ((0 : Nat) : Int)) = u64.wrap ((((dig a).getD i.toNat 0 : Nat) : Int) - (k' : Int)) := by
      rw [u64m, u64m]; omega
     rw [e0] at e1 e2
     rw [u64n (z := (dig a).getD i.toNat 0) (by omega), e1, e2]
     exact ⟨step r c (by omega) e4 e5, by show ((s.len : Int) - (i + 1)).toNat < ((s.len : Int) - i).toNat; omega⟩
 · simp only [decide_eq_false_iff_not] at hp
   intro b1 V5 hle5 hb
   have hi : i.toNat = s.len := by omega
   have hw : A00 V5 (Sl.mk (some (Addr.mk b1 0 none)) (Int.toNat (s.len : Int)) (Int.toNat (s.len : Int))) l :=
    A00.of_block (by rw [hb, ho]) (by omega) (Nat.le_refl _) hwb
   refine (d02 hw (by omega)).mono fun v V6 _ ⟨r, hv, hr⟩ => ⟨r, hv, r, rfl, ?_⟩
   rw [hi, j00 (l := dig a) (by omega), j00 (l := dig b) (by omega), j00 (by omega), o00, o00] at hval
   have h3 := G0a hwb
   have e : wval l = a - b := by
    rcases Nat.eq_zero_or_pos k' with h0 | h0
    · subst h0; omega
    · have : k' = 1 := by omega
      subst this
      rw [hl] at h3
      omega
   rw [e] at hr; exact hr
theorem W0i {a b : Nat} (ha : a < 4294967296) (hb : b < 4294967296) : a * b ≤ 18446744065119617025 :=
 Nat.le_trans (Nat.mul_le_mul (Nat.le_of_lt_succ ha) (Nat.le_of_lt_succ hb)) (by decide)
theorem u04 {V : View} {s t : Sl} {a b : Nat} (hs : e00 V s a) (ht : e00 V t b) (ha : wn a ≤ 2 ^ 44) (hb : wn b ≤ 2 ^ 44) :
 a00 prog L0h #[s.v, t.v] V fun v V' => ∃ r : Sl, v = r.v ∧ e00 V' r (a * b) := by
 have hsl := hs.len
 have htl := ht.len
 simp only [wn] at ha hb
 refine P0f s t V _
  (fun _ x _ => ∃ i l, x = T00.mk (i : Nat) (wv l) ∧ i ≤ s.len ∧ WB l ∧ l.length = s.len + t.len ∧ seg l 0 (i + t.len) = wval ((dig a).take i) * b)
  (fun _ x _ => (s.len - x.t6).toNat)
  (fun c x _ => ∃ i k cr l, c = G00.mk (i : Nat) ∧ i < s.len ∧ x = U00.mk (cr : Nat) (k : Nat) (wv l) ∧ WB l ∧ l.length = s.len + t.len ∧ k ≤ t.len ∧ cr < 4294967296 ∧
    seg l 0 (i + t.len) + cr * 4294967296 ^ (i + k) = wval ((dig a).take i) * b + (dig a).getD i 0 * wval ((dig b).take k) * 4294967296 ^ i)
  (fun _ x _ => (t.len - x.t8).toNat) ?_
 rw [i64w (n := (s.len : Int) + t.len) (by omega) (by omega)]
 have hn : Int.toNat ((s.len : Int) + t.len) = s.len + t.len := by omega
 rw [hn]
 refine ⟨⟨by omega, by omega, by omega, by omega⟩, ⟨0, List.replicate (s.len + t.len) 0, ?_, by omega, WB.zeros _, by simp, ?_⟩, ?_⟩
 · rw [N02]; rfl
 · rw [A0i]; simp [wval]
 rintro _ V2 hle2 ⟨i, l, rfl, hi, hwb, hl, hval⟩
 refine ⟨fun hp => ?_, fun hp b1 V4 hle4 hb1 => ?_⟩
 · simp only [decide_eq_true_eq] at hp
   refine ⟨⟨i, 0, 0, l, rfl, by omega, rfl, hwb, hl, by omega, by omega, by simp [hval, wval]⟩, ?_⟩
   rintro _ V3 hle3 ⟨i', k, cr, l', hc, hi', rfl, hwb', hl', hk, hcr, hval'⟩
   obtain rfl : i = i' := by simp only [G00.mk.injEq] at hc; omega
   have hbd := (i02 a).getD i
   simp only [Int.toNat_natCast]
   refine ⟨fun hq => ?_, fun hq => ?_⟩
   · simp only [decide_eq_true_eq] at hq
     have hbk := (i02 b).getD k
     have hwl := hwb'.getD (i + k)
     have hm := W0i hbd hbk
     have hik : i + k < l'.length := by omega
     rw [i64w (n := (i : Int) + k) (by omega) (by omega), i64w (n := (k : Int) + 1) (by omega) (by omega)]
     have e1 : Int.toNat ((i : Int) + k) = i + k := by omega
     rw [e1]
     refine ⟨⟨by omega, hp, hs.isSome (by omega)⟩, _, (hs.le (View.le_trans hle2 hle3)).get (by show (0 : Int) ≤ (i : Nat); omega) hp, ⟨by omega, hq, ht.isSome (by omega)⟩, _, (ht.le (View.le_trans hle2 hle3)).get (by show (0 : Int) ≤ (k : Nat); omega) hq, ⟨by omega, by omega⟩, ((l'.getD (i + k) 0 : Nat) : Int), ?_, ⟨by omega, by omega⟩, ?_, ?_⟩
     · rw [show 0 + (i + k) * 1 = i + k by omega]; exact c05 hik
     · rw [g00]; omega
     simp only [Int.toNat_natCast]
     rw [u64n (z := (dig a).getD i 0) (by omega), u64n (z := (dig b).getD k 0) (by omega), u64n (z := l'.getD (i + k) 0) (by omega), ← Int.natCast_mul, u64n (z := (dig a).getD i 0 * (dig b).getD k 0) (by omega), ← Int.natCast_add,
      u64n (z := (dig a).getD i 0 * (dig b).getD k 0 + l'.getD (i + k) 0) (by omega), ← Int.natCast_add, u64n (by omega), fd32, u32n, show 0 + (i + k) * 1 = i + k by omega]
     generalize hm' : (dig a).getD i 0 * (dig b).getD k 0 = m at *
     generalize hd : m + l'.getD (i + k) 0 + cr = z
     rw [O02]
     refine ⟨⟨i, k + 1, z / 4294967296, l'.set (i + k) (z % 4294967296), rfl, by omega, by simp, hwb'.set (by omega), by simpa using hl', by omega, by omega, ?_⟩, by show ((t.len : Int) - ((k : Int) + 1)).toNat < ((t.len : Int) - k).toNat; omega⟩
     have h1 := z0i (l := l') (p := i + k) (d := z % 4294967296) (j := 0) (k := i + t.len) (by omega) (by omega) hik
     rw [Nat.sub_zero] at h1
     rw [f00, ← Nat.add_assoc, Nat.pow_succ]
     have h2 : z % 4294967296 + z / 4294967296 * 4294967296 = z := by omega
     have h3 := congrArg (· * 4294967296 ^ (i + k)) h2
     rw [← hd] at h3
     simp only [Nat.add_mul] at h3
     have h4 : (dig a).getD i 0 * ((dig b).getD k 0 * 4294967296 ^ k) * 4294967296 ^ i = m * 4294967296 ^ (i + k) := by rw [← hm', Nat.pow_add]; grind
     rw [← hd] at h1
     rw [Nat.mul_add, Nat.add_mul, h4, ← hd]
     have h5 : ∀ q, q * (4294967296 ^ (i + k) * 4294967296) = q * 4294967296 * 4294967296 ^ (i + k) := by intro q; grind
     rw [h5]
     omega
   · simp only [decide_eq_false_iff_not] at hq
     have hkt : k = t.len := by omega
     subst hkt
     rw [i64w (n := (i : Int) + t.len) (by omega) (by omega), i64w (n := (i : Int) + 1) (by omega) (by omega)]
     have e1 : Int.toNat ((i : Int) + t.len) = i + t.len := by omega
     rw [e1, show 0 + (i + t.len) * 1 = i + t.len by omega, u32w (by omega) (by omega), O02, g00]
     refine ⟨⟨by omega, by omega⟩, by omega, ⟨i + 1, l'.set (i + t.len) cr, by simp, by omega, hwb'.set hcr, by simpa using hl', ?_⟩, by show ((s.len : Int) - ((i : Int) + 1)).toNat < ((s.len : Int) - i).toNat; omega⟩
     rw [show i + 1 + t.len = i + t.len + 1 by omega, e01 (by omega) (by omega), hval', f00, j00 (l := dig b) (by omega), o00]
     grind
 · simp only [decide_eq_false_iff_not] at hp
   have hi' : i = s.len := by omega
   subst hi'
   rw [A04 (by omega), j00 (l := dig a) (by omega), o00] at hval
   have hw : A00 V4 (Sl.mk (some (Addr.mk b1 0 none)) (s.len + t.len) (s.len + t.len)) l := A00.of_block hb1 (by omega) (Nat.le_refl _) hwb
   refine (d02 hw (by omega)).mono fun v V6 _ ⟨r, hv, hr⟩ => ⟨r, hv, r, rfl, ?_⟩
   rw [hval] at hr; exact hr

theorem I0b {V : View} {s : Sl} {a d : Nat} (hs : e00 V s a) (ha : wn a ≤ 2 ^ 45) (hd0 : 0 < d) (hd : d < 4294967296) :
 a00 prog o0e #[s.v, .int .u32 (d : Int)] V fun v V' => ∃ r : Sl, v = .tuple #[r.v, .int .u32 ((a % d : Nat) : Int)] ∧ e00 V' r (a / d) := by
 have hsl := hs.len
 simp only [wn] at ha
 refine p0d s d V _
  (fun _ x _ => ∃ (j k rest : Nat) (l : List Nat), x = y00.mk (rest : Nat) ((j : Int) - 1) (wv l) ∧ j + k = s.len ∧ WB l ∧ l.length = s.len ∧ rest < d ∧ seg (dig a) j k = seg l j k * d + rest)
  (fun _ x _ => (x.t8 + 1).toNat) ⟨⟨by omega, by omega, by omega, by omega⟩, ⟨s.len, 0, 0, List.replicate s.len 0, ?_, by omega, WB.zeros _, by simp, hd0, by simp [i03]⟩, ?_⟩
 · rw [i64w (by omega) (by omega), Int.toNat_natCast, N02]; rfl
 rintro _ V1 hle ⟨j, k, rest, l, rfl, hjk, hwb, hl, hr, hval⟩
 refine ⟨fun hp => ?_, fun hp b1 V3 hle3 hb1 => ?_⟩
 · simp only [ge_iff_le, decide_eq_true_eq] at hp
   obtain ⟨i, rfl⟩ : ∃ i, j = i + 1 := ⟨j - 1, by omega⟩
   simp only [show (((i + 1 : Nat) : Int) - 1) = (i : Nat) by omega, Int.toNat_natCast]
   have hw := (i02 a).getD i
   have h1 : (rest * 4294967296 + (dig a).getD i 0) / d < 4294967296 := by
    rw [Nat.div_lt_iff_lt_mul (by omega)]
    have := Nat.mul_le_mul_right 4294967296 (Nat.succ_le_of_lt hr)
    rw [Nat.succ_mul] at this
    omega
   have h2 : (rest * 4294967296 + (dig a).getD i 0) % d < d := Nat.mod_lt _ (by omega)
   have e : (2 : Int) ^ (min (Int.toNat 32) (u64.bits)) = 4294967296 := by decide
   refine ⟨⟨by omega, by omega, hs.isSome (by omega)⟩, _, (hs.le hle).get (i := (i : Nat)) (by omega) (by omega), ?_⟩
   simp only [Int.toNat_natCast]
   rw [u64n (z := d) (by omega), u64n (z := (dig a).getD i 0) (by omega), e, show (rest : Int) * 4294967296 = ((rest * 4294967296 : Nat) : Int) by omega, u64n (z := rest * 4294967296) (by omega), or64 hw (by omega),
    u64n (z := rest * 4294967296 + (dig a).getD i 0) (by omega), ← Int.ofNat_tdiv, ← Int.ofNat_tmod, u64n (by omega), u32n, Nat.mod_eq_of_lt h1, i64w (by omega) (by omega), show 0 + i * 1 = i by omega, O02]
   refine ⟨by omega, ⟨by omega, by omega⟩, by rw [g00]; omega, by omega, ⟨i, k + 1, _, _, rfl, by omega, hwb.set h1, by simpa using hl, Nat.mod_lt _ hd0, ?_⟩, by show ((i : Int) - 1 + 1).toNat < ((i : Int) + 1).toNat; omega⟩
   rw [Nat.add_comm k 1, Y04, Y04 _ i 1 k, hval, f05 (j := i + 1) (by omega), b01, b01, i03, i03, Nat.add_zero, D03, if_pos ⟨rfl, by omega⟩]
   have := Nat.div_add_mod (rest * 4294967296 + (dig a).getD i 0) d
   generalize (rest * 4294967296 + (dig a).getD i 0) / d = q at *
   generalize (rest * 4294967296 + (dig a).getD i 0) % d = m at *
   simp only [Nat.pow_zero, Nat.mul_one, Nat.pow_one, Nat.zero_add, Nat.mul_add, Nat.add_mul]
   have e2 : 4294967296 * (seg l (i + 1) k * d) = 4294967296 * seg l (i + 1) k * d := by rw [Nat.mul_assoc]
   have e3 : q * d = d * q := Nat.mul_comm _ _
   omega
 · simp only [ge_iff_le, decide_eq_false_iff_not] at hp
   have hj : j = 0 := by omega
   subst hj
   have hk : k = s.len := by omega
   subst hk
   have hw : A00 V3 (Sl.mk (some (Addr.mk b1 0 none)) (Int.toNat (s.len : Int)) (Int.toNat (s.len : Int))) l := A00.of_block hb1 (by omega) (Nat.le_refl _) hwb
   rw [A04 (by omega), A04 (by omega), o00] at hval
   have e1 : a / d = wval l := by rw [hval, Nat.mul_comm, Nat.mul_add_div hd0, Nat.div_eq_of_lt hr]; omega
   have e2 : a % d = rest := by rw [hval, Nat.mul_comm, Nat.mul_add_mod, Nat.mod_eq_of_lt hr]
   refine (d02 hw (by omega)).mono fun v V6 _ ⟨r, hv, hr⟩ => ⟨r, hv, r, ?_, ?_⟩
   · rw [e2, u32n, Nat.mod_eq_of_lt (by omega)]
   · rw [e1]; exact hr
theorem y0s {x : Nat} (h : x ≠ 0) : bl x = bl (x / 2) + 1 := by
 by_cases h1 : x = 1
 · subst h1; decide
 · have := O0n (m := x) 1 (by omega)
   simpa using this
theorem m01 {V : View} {s : Sl} {a : Nat} (hs : e00 V s a) (ha : wn a ≤ 2 ^ 45) :
 a00 prog l05 #[s.v] V fun v _ => v = .int .i64 (bl a : Nat) := by
 have hsl := hs.len
 have hwn : wn a = s.len := by simp only [wn]; exact hsl.symm
 refine u0e s V _ (fun _ x _ => ∃ k y : Nat, x = B00.mk (k : Nat) (y : Nat) ∧ k + bl y = bl ((dig a).getD (wn a - 1) 0) ∧ k ≤ 32) (fun _ x _ => x.t4.toNat) ⟨fun h => ?_, fun h => ?_⟩
 · have h : (s.len : Int) = 0 := by simpa using h
   have : a = 0 := S02.1 (by omega)
   subst this; rfl
 · have h : ¬ (s.len : Int) = 0 := by simpa using h
   have ha0 : a ≠ 0 := by rintro rfl; rw [P03] at hwn; omega
   rw [i64w (n := (s.len : Int) - 1) (by omega) (by omega)]
   have e : Int.toNat ((s.len : Int) - 1) = wn a - 1 := by omega
   have h2 := A0v ha0
   have h3 : bl ((dig a).getD (wn a - 1) 0) ≤ 32 := by
    have h3 := (j05 ha0).2.2
    have := W09 h3
    have := (i02 a).getD (wn a - 1)
    have := (Nat.pow_lt_pow_iff_right (a := 2) (n := bl ((dig a).getD (wn a - 1) 0) - 1) (m := 32) (by omega)).1 (by omega)
    omega
   refine ⟨⟨by omega, by omega, hs.isSome (by omega)⟩, _, hs.get (by omega) (by omega), ⟨0, _, rfl, by rw [e]; omega, by omega⟩, ?_⟩
   rintro _ V1 l1 ⟨k, y, rfl, hk, hk2⟩
   refine ⟨fun hp => ?_, fun hp => ?_⟩
   · simp only [gt_iff_lt, decide_eq_true_eq] at hp
     have hb := y0s (x := y) (by omega)
     have e1 : Int.fdiv (y : Int) (2 ^ (min (Int.toNat 1) (u32.bits))) = ((y / 2 : Nat) : Int) := by
      have e2 : (2 : Int) ^ (min (Int.toNat 1) (u32.bits)) = 2 := by decide
      rw [e2, Int.fdiv_eq_ediv_of_nonneg _ (by omega)]; omega
     simp only []
     rw [e1, i64w (by omega) (by omega)]
     exact ⟨⟨k + 1, y / 2, rfl, by omega, by omega⟩, by show ((y / 2 : Nat) : Int).toNat < (y : Int).toNat; omega⟩
   · simp only [gt_iff_lt, decide_eq_false_iff_not] at hp
     have hy : y = 0 := by omega
     subst hy
     rw [Y05] at hk
     simp only []
     rw [i64w (n := 32 * _) (by omega) (by omega), i64w (by omega) (by omega)]
     congr 1
     omega
theorem z01 {V : View} {s : Sl} {a n : Nat} (hs : e00 V s a) (ha : wn a ≤ 2 ^ 44) (hn : n ≤ 2 ^ 44) :
 a00 prog Q07 #[s.v, .int .i64 (n : Int)] V fun v V' => ∃ r : Sl, v = r.v ∧ e00 V' r (a * 2 ^ n) := by
 have hsl := hs.len
 have hs0 : s.len = 0 → a = 0 := fun h => S02.1 (by simp only [wn]; omega)
 simp only [wn] at ha
 obtain ⟨W, hW⟩ : ∃ W, W = n / 32 := ⟨_, rfl⟩
 obtain ⟨R, hR⟩ : ∃ R, R = 2 ^ (n % 32) := ⟨_, rfl⟩
 have hR1 : R ≤ 2147483648 := by rw [hR]; exact Nat.pow_le_pow_right (by omega) (show n % 32 ≤ 31 by omega)
 obtain ⟨Q, hQ⟩ : ∃ Q, R * Q = 4294967296 := ⟨2 ^ (32 - n % 32), by rw [hR, ← Nat.pow_add, show n % 32 + (32 - n % 32) = 32 by omega]⟩
 refine K0f s n V _
  (fun _ x _ => ∃ (i : Nat) (l : List Nat), x = O00.mk (i : Nat) (wv l) ∧ i ≤ s.len ∧ WB l ∧ l.length = s.len + W + 1 ∧ seg l 0 (i + W + 1) = wval ((dig a).take i) * R * 4294967296 ^ W ∧ l.getD (i + W) 0 < R)
  (fun _ x _ => (s.len - x.t6).toNat)
  ⟨fun h => ⟨_, rfl, by have h : (s.len : Int) = 0 := (by simpa using h); have := hs0 (by omega); subst this; rw [Nat.zero_mul]; exact e00.zero V⟩, fun _ => ?_⟩
 rw [td32, tm32, ← hW, i64w (n := (W : Int)) (by omega) (by omega), i64w (n := (s.len : Int) + W) (by omega) (by omega), i64w (n := (s.len : Int) + W + 1) (by omega) (by omega),
  u64w (n := ((n % 32 : Nat) : Int)) (by omega) (by omega), Int.toNat_natCast, a0u (show n % 32 ≤ 64 by omega), ← hR]
 have hN : Int.toNat ((s.len : Int) + W + 1) = s.len + W + 1 := by omega
 rw [hN]
 refine ⟨⟨by omega, by omega, by omega, by omega⟩, ⟨0, List.replicate (s.len + W + 1) 0, ?_, by omega, WB.zeros _, by simp, ?_, ?_⟩, ?_⟩
 · rw [N02]; rfl
 · rw [A0i]; simp [wval]
 · have : (List.replicate (s.len + W + 1) 0).getD (0 + W) 0 = 0 := by simp only [List.getD, List.getElem?_replicate]; split <;> rfl
   rw [this, hR]; exact Nat.two_pow_pos _
 rintro _ V2 hle2 ⟨i, l, rfl, hi, hwb, hl, hval, hlt⟩
 refine ⟨fun hp => ?_, fun hp b1 V4 hle4 hb1 => ?_⟩
 · simp only [decide_eq_true_eq] at hp
   have hai := (i02 a).getD i
   have hW2 := hwb.getD (i + W)
   simp only [Int.toNat_natCast]
   rw [i64w (n := (i : Int) + W) (by omega) (by omega), i64w (n := (i : Int) + W + 1) (by omega) (by omega), i64w (n := (i : Int) + 1) (by omega) (by omega)]
   have e1 : Int.toNat ((i : Int) + W) = i + W := by omega
   have e2 : Int.toNat ((i : Int) + W + 1) = i + W + 1 := by omega
   rw [e1, e2, show 0 + (i + W) * 1 = i + W by omega, show 0 + (i + W + 1) * 1 = i + W + 1 by omega]
   refine ⟨⟨by omega, hp, hs.isSome (by omega)⟩, _, (hs.le hle2).get (i := (i : Nat)) (by omega) hp, by omega, ⟨by omega, by omega⟩, ((l.getD (i + W) 0 : Nat) : Int), c05 (by omega), ⟨by omega, by omega⟩, by rw [g00]; omega, ⟨by omega, by omega⟩, by simp only [List.length_set, g00]; omega, ?_⟩
   simp only [Int.toNat_natCast]
   generalize hA : (dig a).getD i 0 = A at *
   have hm : A * R ≤ 4294967295 * 2147483648 := Nat.mul_le_mul (by omega) hR1
   rw [u64w (n := (A : Int)) (by omega) (by omega), ← Int.natCast_mul, u64w (n := ((A * R : Nat) : Int)) (by omega) (by omega)]
   have e3 : (2 : Int) ^ (min (Int.toNat 32) (u64.bits)) = 4294967296 := by decide
   rw [e3, Int.fdiv_eq_ediv_of_nonneg _ (by omega)]
   have e4 : u32.wrap (((A * R : Nat) : Int) / 4294967296) = ((A * R / 4294967296 : Nat) : Int) := by rw [u32w (by omega) (by omega)]; omega
   have e5 : u32.wrap ((A * R : Nat) : Int) = ((A * R % 4294967296 : Nat) : Int) := by rw [u32m]; omega
   have e6 : A * R % 4294967296 = (A % Q) * R := by
    rw [← hQ, Nat.mul_comm A R, Nat.mul_mod_mul_left, Nat.mul_comm]
   have hhi : A * R / 4294967296 < R := by
    rw [Nat.div_lt_iff_lt_mul (by omega), Nat.mul_comm]
    exact Nat.mul_lt_mul_of_pos_left (by omega) (by rw [hR]; exact Nat.two_pow_pos _)
   have hlo : l.getD (i + W) 0 + A * R % 4294967296 < 4294967296 := by
    rw [e6]
    have h0 : 0 < Q := by
     rcases Nat.eq_zero_or_pos Q with h | h
     · subst h; simp at hQ
     · exact h
    have h1 : A % Q + 1 ≤ Q := Nat.mod_lt _ h0
    have h2 := Nat.mul_le_mul_right R h1
    rw [Nat.succ_mul, Nat.mul_comm Q R, hQ] at h2
    omega
   rw [e4, e5, i0w hW2 (Nat.mod_lt _ (by omega)), e6]
   have hor : (l.getD (i + W) 0 ||| A % Q * R) = l.getD (i + W) 0 + A % Q * R := by
    rw [hR] at hlt ⊢; exact u0u hlt
   rw [hor, ← e6, u32w (by omega) (by omega), O02, O02]
   refine ⟨⟨i + 1, (l.set (i + W) (l.getD (i + W) 0 + A * R % 4294967296)).set (i + W + 1) (A * R / 4294967296), rfl, by omega, (hwb.set (by omega)).set (by omega), by simpa using hl, ?_, ?_⟩, by show ((s.len : Int) - ((i : Int) + 1)).toNat < ((s.len : Int) - i).toNat; omega⟩
   · rw [show i + 1 + W + 1 = (i + W + 1) + 1 by omega, e01 (by omega) (by simp; omega)]
     have h1 := z0i (l := l) (p := i + W) (d := l.getD (i + W) 0 + A * R % 4294967296) (j := 0) (k := i + W + 1) (by omega) (by omega) (by omega)
     rw [Nat.sub_zero, hval] at h1
     rw [f00, hA, Nat.pow_succ]
     have h2 : A * R % 4294967296 + A * R / 4294967296 * 4294967296 = A * R := by omega
     have h3 := congrArg (· * 4294967296 ^ (i + W)) h2
     simp only [Nat.add_mul] at h1 h3 ⊢
     have h4 : A * 4294967296 ^ i * R * 4294967296 ^ W = A * R * 4294967296 ^ (i + W) := by rw [Nat.pow_add]; grind
     have h5 : ∀ q, q * (4294967296 ^ (i + W) * 4294967296) = q * 4294967296 * 4294967296 ^ (i + W) := by intro q; grind
     rw [h4, h5]
     omega
   · rw [D03, if_pos ⟨by omega, by simp; omega⟩]; exact hhi
 · simp only [decide_eq_false_iff_not] at hp
   have hi' : i = s.len := by omega
   subst hi'
   rw [A04 (by omega), j00 (l := dig a) (by omega), o00] at hval
   have hw : A00 V4 (Sl.mk (some (Addr.mk b1 0 none)) (s.len + W + 1) (s.len + W + 1)) l := A00.of_block hb1 (by omega) (Nat.le_refl _) hwb
   refine (d02 hw (by omega)).mono fun v V6 _ ⟨r, hv, hr⟩ => ⟨r, hv, r, rfl, ?_⟩
   rw [hval, Nat.mul_assoc, hR, hW, ← F0b] at hr; exact hr
theorem x03 {V : View} {s : Sl} {a n : Nat} (hs : e00 V s a) (ha : wn a ≤ 2 ^ 44) (hn : n ≤ 2 ^ 44) :
 a00 prog S07 #[s.v, .int .i64 (n : Int)] V fun v V' => ∃ r : Sl, v = r.v ∧ e00 V' r (a / 2 ^ n) := by
 have hsl := hs.len
 have hwn : wn a = s.len := by simp only [wn]; exact hsl.symm
 have haw := H0a a
 rw [hwn] at ha haw
 obtain ⟨W, hW⟩ : ∃ W, W = n / 32 := ⟨_, rfl⟩
 obtain ⟨R, hR⟩ : ∃ R, R = 2 ^ (n % 32) := ⟨_, rfl⟩
 have hR0 : 0 < R := by rw [hR]; exact Nat.two_pow_pos _
 obtain ⟨Q, hQ⟩ : ∃ Q, R * Q = 4294967296 := ⟨2 ^ (32 - n % 32), by rw [hR, ← Nat.pow_add, show n % 32 + (32 - n % 32) = 32 by omega]⟩
 have hpow : 2 ^ n = 4294967296 ^ W * R := by rw [hR, hW, Nat.mul_comm, ← F0b]
 refine L0f s n V _
  (fun _ x _ => ∃ (i : Nat) (l : List Nat), x = t00.mk (i : Nat) (wv l) ∧ i ≤ s.len - W ∧ WB l ∧ l.length = s.len - W ∧ seg l 0 i = a / 2 ^ n % 4294967296 ^ i)
  (fun _ x _ => (s.len - x.t6).toNat) ?_
 rw [td32, tm32, ← hW, i64w (n := (W : Int)) (by omega) (by omega)]
 refine ⟨fun h => ⟨_, rfl, ?_⟩, fun h => ?_⟩
 · simp only [ge_iff_le, decide_eq_true_eq] at h
   have : a / 2 ^ n = 0 := by
    refine Nat.div_eq_of_lt (Nat.lt_of_lt_of_le haw ?_)
    rw [hpow]
    have h1 : 4294967296 ^ s.len ≤ 4294967296 ^ W := Nat.pow_le_pow_right (by omega) (by omega)
    have := Nat.mul_le_mul_left (4294967296 ^ W) hR0
    omega
   rw [this]; exact e00.zero V
 simp only [ge_iff_le, decide_eq_false_iff_not] at h
 rw [i64w (n := (s.len : Int) - W) (by omega) (by omega), u64w (n := ((n % 32 : Nat) : Int)) (by omega) (by omega), Int.toNat_natCast, a0u (show n % 32 ≤ 64 by omega), ← hR]
 have hN : Int.toNat ((s.len : Int) - W) = s.len - W := by omega
 rw [hN]
 refine ⟨⟨by omega, by omega, by omega, by omega⟩, ⟨0, List.replicate (s.len - W) 0, ?_, by omega, WB.zeros _, by simp, ?_⟩, ?_⟩
 · rw [N02]; rfl
 · simp [i03, Nat.mod_one]
 rintro _ V2 hle2 ⟨i, l, rfl, hi, hwb, hl, hval⟩
 refine ⟨fun hp => ?_, fun hp b1 V4 hle4 hb1 => ?_⟩
 · simp only [decide_eq_true_eq] at hp
   simp only [Int.toNat_natCast]
   rw [i64w (n := (i : Int) + W) (by omega) (by omega), i64w (n := (i : Int) + W + 1) (by omega) (by omega), i64w (n := (i : Int) + 1) (by omega) (by omega)]
   have w1 := (i02 a).getD (W + i)
   have w2 := (i02 a).getD (W + i + 1)
   have e1 : Int.toNat ((i : Int) + W) = W + i := by omega
   have e2 : Int.toNat ((i : Int) + W + 1) = W + i + 1 := by omega
   have e3 : (2 : Int) ^ (min (Int.toNat 32) (u64.bits)) = 4294967296 := by decide
   have word := g0o (a := a) (W := W) (i := i) hQ hR0
   rw [← hpow] at word
   have step : ∀ z : Nat, z = (dig a).getD (W + i) 0 + 4294967296 * (dig a).getD (W + i + 1) 0 →
    (∃ (i' : Nat) (l' : List Nat), t00.mk ((i : Int) + 1) ((wv l).set (0 + i * 1) (.int .u32 (u32.wrap (Int.fdiv (z : Int) (R : Nat))))) = t00.mk (i' : Nat) (wv l') ∧ i' ≤ s.len - W ∧ WB l' ∧ l'.length = s.len - W ∧ seg l' 0 i' = a / 2 ^ n % 4294967296 ^ i') := by
    intro z hz
    have ez : u32.wrap (Int.fdiv (z : Int) (R : Nat)) = ((a / 2 ^ n / 4294967296 ^ i % 4294967296 : Nat) : Int) := by
     rw [Int.fdiv_eq_ediv_of_nonneg _ (by omega), u32m, ← word, ← hz]; rfl
    rw [ez, show 0 + i * 1 = i by omega, O02]
    refine ⟨i + 1, _, rfl, by omega, hwb.set (Nat.mod_lt _ (by omega)), by simpa using hl, ?_⟩
    rw [e01 (by omega) (by omega), hval, Nat.pow_succ, Nat.mod_mul, Nat.mul_comm (4294967296 ^ i)]
   have hme : ((s.len : Int) - ((i : Int) + 1)).toNat < ((s.len : Int) - i).toNat := by omega
   have g1 := (hs.le hle2).get (i := (i : Int) + W) (by omega) (by omega)
   rw [e1] at g1 ⊢
   refine ⟨⟨by omega, by omega, hs.isSome (by omega)⟩, _, g1, fun hq => ?_, fun hq => ?_⟩
   · simp only [decide_eq_true_eq] at hq
     have g2 := (hs.le hle2).get (i := (i : Int) + W + 1) (by omega) (by omega)
     rw [e2] at g2 ⊢
     refine ⟨⟨by omega, by omega, hs.isSome (by omega)⟩, _, g2, by omega, ⟨by omega, by omega⟩, by rw [g00]; omega, ?_⟩
     rw [e3, u64w (n := (((dig a).getD (W + i) 0 : Nat) : Int)) (by omega) (by omega), u64w (n := (((dig a).getD (W + i + 1) 0 : Nat) : Int)) (by omega) (by omega), u64w (n := (((dig a).getD (W + i + 1) 0 : Nat) : Int) * 4294967296) (by omega) (by omega),
      show (((dig a).getD (W + i + 1) 0 : Nat) : Int) * 4294967296 = (((dig a).getD (W + i + 1) 0 * 4294967296 : Nat) : Int) by omega, f0w w1 w2, u64w (by omega) (by omega)]
     exact ⟨step _ (by omega), hme⟩
   · simp only [decide_eq_false_iff_not] at hq
     refine ⟨by omega, ⟨by omega, by omega⟩, by rw [g00]; omega, ?_⟩
     rw [u64w (n := (((dig a).getD (W + i) 0 : Nat) : Int)) (by omega) (by omega)]
     have h0 : (dig a).getD (W + i + 1) 0 = 0 := by simp only [List.getD]; rw [List.getElem?_eq_none (by omega)]; rfl
     exact ⟨step _ (by omega), hme⟩
 · simp only [decide_eq_false_iff_not] at hp
   have hi' : i = s.len - W := by omega
   subst hi'
   have hw : A00 V4 (Sl.mk (some (Addr.mk b1 0 none)) (s.len - W) (s.len - W)) l := A00.of_block hb1 (by omega) (Nat.le_refl _) hwb
   refine (d02 hw (by omega)).mono fun v V6 _ ⟨r, hv, hr⟩ => ⟨r, hv, r, rfl, ?_⟩
   rw [A04 (by omega)] at hval
   have hlt : a / 2 ^ n < 4294967296 ^ (s.len - W) := by
    rw [hpow, ← Nat.div_div_eq_div_mul]
    refine Nat.lt_of_le_of_lt (Nat.div_le_self _ _) ?_
    rw [Nat.div_lt_iff_lt_mul (Nat.pow_pos (by omega)), ← Nat.pow_add, show s.len - W + W = s.len by omega]
    exact haw
   rw [hval, Nat.mod_eq_of_lt hlt] at hr; exact hr

theorem W0w (P : Nat) (h : P < 18446744073709551616) : BitVec.toNat ((BitVec.ofInt u64.bits (P : Int)) &&& (BitVec.ofInt u64.bits 4294967295)) = P % 4294967296 := by
 rw [BitVec.toNat_and]
 have e1 : (BitVec.ofInt u64.bits (P : Int)).toNat = P := of64 h
 have e2 : (BitVec.ofInt u64.bits 4294967295).toNat = 2 ^ 32 - 1 := by decide
 rw [e1, e2, Nat.and_two_pow_sub_one_eq_mod]
structure k0l (X vN n m j g i cr bo : Nat) (u qd u0 : List Nat) : Prop where
 div : DivI X vN n m (j + 1) u0 qd
 n2 : 2 ≤ n
 nm : n ≤ m
 wn : wn vN = n
 g32 : g < 4294967296
 ge : seg u0 j (n + 1) / vN ≤ g
 gl : (g - 1) * vN ≤ seg u0 j (n + 1)
 i_le : i ≤ n
 wu : WB u
 lu : u.length = m
 cr32 : cr < 4294967296
 bo1 : bo ≤ 1
 out : ∀ p, p < j ∨ j + i ≤ p → u.getD p 0 = u0.getD p 0
 val : seg u j i + g * wval ((dig vN).take i) = seg u0 j i + (cr + bo) * 4294967296 ^ i
structure X0i (X vN n m j g k cr : Nat) (u qd u0 l' : List Nat) : Prop where
 div : DivI X vN n m (j + 1) u0 qd
 n2 : 2 ≤ n
 nm : n ≤ m
 wn : wn vN = n
 wl : WB l'
 ll : l'.length = m
 out : ∀ i, i < j ∨ j + n < i → l'.getD i 0 = u0.getD i 0
 eq : seg l' j (n + 1) + g * vN = seg u0 j (n + 1) + 4294967296 ^ (n + 1)
 g32 : g < 4294967296
 ge : seg u0 j (n + 1) / vN ≤ g
 gl : (g - 1) * vN ≤ seg u0 j (n + 1)
 k_le : k ≤ n
 cr1 : cr ≤ 1
 wu : WB u
 lu : u.length = m
 out2 : ∀ i, i < j ∨ j + k ≤ i → u.getD i 0 = l'.getD i 0
 val : seg u j k + cr * 4294967296 ^ k = seg l' j k + seg (dig vN) 0 k
theorem k0l.jn {X vN n m j g i cr bo : Nat} {u qd u0 : List Nat} (h : k0l X vN n m j g i cr bo u qd u0) : j + n < m := by
 have := h.div.jl
 have := h.nm
 omega
theorem X0i.jn {X vN n m j g i cr : Nat} {u qd u0 l' : List Nat} (h : X0i X vN n m j g i cr u qd u0 l') : j + n < m := by
 have := h.div.jl
 have := h.nm
 omega
theorem G0u {vN n : Nat} (h : wn vN = n) (hn : 2 ≤ n) : 0 < vN := by
 rcases Nat.eq_zero_or_pos vN with h0 | h0
 · subst h0; rw [P03] at h; omega
 · exact h0
theorem k0l.step {X vN n m j g i cr bo : Nat} {u qd u0 : List Nat} (h : k0l X vN n m j g i cr bo u qd u0) (hi : i < n) :
 ∃ low br c : Nat, u32.wrap (u64.wrap ((u64.wrap ((u64.wrap ((u.getD (j + i) 0 : Nat) : Int)) - (u64.wrap ((BitVec.toNat ((BitVec.ofInt u64.bits (u64.wrap ((u64.wrap ((g : Int) * (u64.wrap (((dig vN).getD i 0 : Nat) : Int)))) + (cr : Int)))) &&& (BitVec.ofInt u64.bits 4294967295)) : Nat) : Int)))) - (bo : Int))) = (low : Int) ∧
  Int.fdiv (u64.wrap ((u64.wrap ((u64.wrap ((u.getD (j + i) 0 : Nat) : Int)) - (u64.wrap ((BitVec.toNat ((BitVec.ofInt u64.bits (u64.wrap ((u64.wrap ((g : Int) * (u64.wrap (((dig vN).getD i 0 : Nat) : Int)))) + (cr : Int)))) &&& (BitVec.ofInt u64.bits 4294967295)) : Nat) : Int)))) - (bo : Int))) 9223372036854775808 = (br : Int) ∧
  Int.fdiv (u64.wrap ((u64.wrap ((g : Int) * (u64.wrap (((dig vN).getD i 0 : Nat) : Int)))) + (cr : Int))) 4294967296 = (c : Int) ∧
  k0l X vN n m j g (i + 1) c br (u.set (j + i) low) qd u0 := by
 have hjn := h.jn
 have hvi := (i02 vN).getD i
 have hui := h.wu.getD (j + i)
 have hlu := h.lu
 have hc := h.cr32
 have hm' := E0b h.g32 hvi
 have hu0 : u0.getD (j + i) 0 = u.getD (j + i) 0 := (h.out (j + i) (by omega)).symm
 generalize hA : (dig vN).getD i 0 = A at *
 generalize hU : u.getD (j + i) 0 = U at *
 obtain ⟨P, hP⟩ : ∃ P, P = g * A + cr := ⟨_, rfl⟩
 rw [u64w (n := (A : Int)) (by omega) (by omega), ← Int.natCast_mul, u64w (n := ((g * A : Nat) : Int)) (by omega) (by omega), u64w (n := ((g * A : Nat) : Int) + cr) (by omega) (by omega),
  show ((g * A : Nat) : Int) + cr = (P : Nat) by omega, W0w P (by omega), u64w (n := ((P % 4294967296 : Nat) : Int)) (by omega) (by omega), u64w (n := (U : Int)) (by omega) (by omega), Int.fdiv_eq_ediv_of_nonneg (P : Int) (by omega),
  show (P : Int) / 4294967296 = ((P / 4294967296 : Nat) : Int) by omega]
 obtain ⟨low, br, h1, h2, h3, h4, h5⟩ := c08 hui (Nat.mod_lt P (by omega : 0 < 4294967296)) h.bo1
 refine ⟨low, br, _, h4, h5, rfl, h.div, h.n2, h.nm, h.wn, h.g32, h.ge, h.gl, hi, h.wu.set h1, by simpa using hlu, by omega, h2, ?_, ?_⟩
 · intro p hp
   rw [D03, if_neg (by omega)]; exact h.out p (by omega)
 · have hval := h.val
   rw [e01 rfl (by omega), b01, f00, hA, hu0, Nat.pow_succ]
   have h6 : low + g * A + cr + bo = U + (P / 4294967296 + br) * 4294967296 := by
    have := Nat.div_add_mod P 4294967296
    omega
   have h7 := congrArg (· * 4294967296 ^ i) h6
   simp only [Nat.add_mul] at h7 hval ⊢
   have h8 : g * (wval (List.take i (dig vN)) + A * 4294967296 ^ i) = g * wval (List.take i (dig vN)) + g * A * 4294967296 ^ i := by rw [Nat.mul_add, Nat.mul_assoc]
   have h9 : ∀ z, z * (4294967296 ^ i * 4294967296) = z * 4294967296 * 4294967296 ^ i := by intro z; grind
   rw [h8, h9, h9]
   omega
theorem k0l.last {X vN n m j g cr bo : Nat} {u qd u0 : List Nat} (h : k0l X vN n m j g n cr bo u qd u0) :
 ∃ low br : Nat, u32.wrap (u64.wrap ((u64.wrap ((u64.wrap ((u.getD (j + n) 0 : Nat) : Int)) - (cr : Int))) - (bo : Int))) = (low : Int) ∧
  Int.fdiv (u64.wrap ((u64.wrap ((u64.wrap ((u.getD (j + n) 0 : Nat) : Int)) - (cr : Int))) - (bo : Int))) 9223372036854775808 = (br : Int) ∧ (u.set (j + n) low).length = m ∧
  (br = 1 → X0i X vN n m j g 0 0 (u.set (j + n) low) qd u0 (u.set (j + n) low) ∧ 0 < g) ∧ (br ≠ 1 → DivI X vN n m j (u.set (j + n) low) (qd.set j g)) := by
 have hjn := h.jn
 have hui := h.wu.getD (j + n)
 have hlu := h.lu
 have hu0 : u0.getD (j + n) 0 = u.getD (j + n) 0 := (h.out (j + n) (by omega)).symm
 generalize hU : u.getD (j + n) 0 = U at *
 obtain ⟨low, br, h1, h2, h3, h4, h5⟩ := c08 hui h.cr32 h.bo1
 rw [u64w (n := (U : Int)) (by omega) (by omega)]
 refine ⟨low, br, h4, h5, ?_⟩
 obtain ⟨l', hl'⟩ : ∃ l', l' = u.set (j + n) low := ⟨_, rfl⟩
 rw [← hl']
 have hwl' : WB l' := by rw [hl']; exact h.wu.set h1
 have hll' : l'.length = m := by rw [hl']; simpa using hlu
 have hout : ∀ p, p < j ∨ j + n < p → l'.getD p 0 = u0.getD p 0 := by
  intro p hp
  rw [hl', D03, if_neg (by omega)]; exact h.out p (by omega)
 have hwv := h.wn
 have hvpos := G0u hwv h.n2
 have heq : seg l' j (n + 1) + g * vN = seg u0 j (n + 1) + br * 4294967296 ^ (n + 1) := by
  have hval := h.val
  rw [j00 (l := dig vN) (Nat.le_of_eq hwv), o00] at hval
  rw [hl', e01 rfl (by omega), b01, hu0, Nat.pow_succ]
  have h7 := congrArg (· * 4294967296 ^ n) h3
  simp only [Nat.add_mul] at h7 hval
  have h9 : br * (4294967296 ^ n * 4294967296) = br * 4294967296 * 4294967296 ^ n := by grind
  rw [h9]
  omega
 have hlt1 := k08 hwl' j (n + 1)
 refine ⟨hll', fun hb => ?_, fun hb => ?_⟩
 · rw [hb, Nat.one_mul] at heq
   refine ⟨⟨h.div, h.n2, h.nm, hwv, hwl', hll', hout, heq, h.g32, h.ge, h.gl, by omega, by omega, hwl', hll', fun _ _ => rfl, by simp [i03]⟩, ?_⟩
   rcases Nat.eq_zero_or_pos g with h0 | h0
   · exfalso; subst h0; omega
   · exact h0
 · have hb0 : br = 0 := by omega
   rw [hb0, Nat.zero_mul, Nat.add_zero] at heq
   have G9 := B0i h.div.wu h.n2 hwv h.div.lt
   have hcase := m0f G9 h.ge h.gl
   have hvlt : vN < 4294967296 ^ n := by rw [← hwv]; exact H0a vN
   obtain ⟨W9, hW9⟩ : ∃ W9, W9 = seg u0 j (n + 1) := ⟨_, rfl⟩
   rw [← hW9] at hcase heq
   have hWm : W9 % vN < vN := Nat.mod_lt _ hvpos
   have hWd := Nat.div_add_mod W9 vN
   have hgq : g = W9 / vN := by
    rcases hcase with h | h
    · exact h
    · exfalso; rw [h, Nat.succ_mul, Nat.mul_comm] at heq; omega
   have hgm : g * vN = vN * (W9 / vN) := by rw [hgq, Nat.mul_comm]
   have hR : seg l' j (n + 1) = W9 % vN := by omega
   refine h.div.next h.nm (R := W9 % vN) (by rw [← hW9]; omega) hWm h.g32 hwl' hll' ?_ (Q0i hR (by omega))
   exact P0i fun i _ hi => hout i (by omega)
theorem X0i.step {X vN n m j g k cr : Nat} {u qd u0 l' : List Nat} (h : X0i X vN n m j g k cr u qd u0 l') (hk : k < n) :
 ∃ low c : Nat, u32.wrap (u64.wrap ((u64.wrap ((u64.wrap ((u.getD (j + k) 0 : Nat) : Int)) + (u64.wrap (((dig vN).getD k 0 : Nat) : Int)))) + (cr : Int))) = (low : Int) ∧
  Int.fdiv (u64.wrap ((u64.wrap ((u64.wrap ((u.getD (j + k) 0 : Nat) : Int)) + (u64.wrap (((dig vN).getD k 0 : Nat) : Int)))) + (cr : Int))) 4294967296 = (c : Int) ∧
  X0i X vN n m j g (k + 1) c (u.set (j + k) low) qd u0 l' := by
 have hjn := h.jn
 have hA := (i02 vN).getD k
 have hU := h.wu.getD (j + k)
 have hlu := h.lu
 have hcr := h.cr1
 have hL : l'.getD (j + k) 0 = u.getD (j + k) 0 := (h.out2 (j + k) (by omega)).symm
 generalize hA' : (dig vN).getD k 0 = A at *
 generalize hU' : u.getD (j + k) 0 = U at *
 rw [u64w (n := (U : Int)) (by omega) (by omega), u64w (n := (A : Int)) (by omega) (by omega), u64w (n := (U : Int) + A) (by omega) (by omega), u64w (n := (U : Int) + A + cr) (by omega) (by omega), Int.fdiv_eq_ediv_of_nonneg _ (by omega)]
 have K2 : u32.wrap ((U : Int) + A + cr) = (((cr + U + A) % 4294967296 : Nat) : Int) := by rw [u32m]; omega
 have K3 : ((U : Int) + A + cr) / 4294967296 = (((cr + U + A) / 4294967296 : Nat) : Int) := by omega
 refine ⟨_, _, K2, K3, h.div, h.n2, h.nm, h.wn, h.wl, h.ll, h.out, h.eq, h.g32, h.ge, h.gl, hk, by omega, h.wu.set (by omega), by simpa using hlu, ?_, ?_⟩
 · intro i hi; rw [D03, if_neg (by omega)]; exact h.out2 i (by omega)
 · have hseg := h.val
   rw [e01 rfl (by omega), b01, b01, Nat.zero_add, hA', hL, Nat.pow_succ]
   have h6 : (cr + U + A) % 4294967296 + (cr + U + A) / 4294967296 * 4294967296 = cr + U + A := by omega
   have h7 := congrArg (· * 4294967296 ^ k) h6
   simp only [Nat.add_mul] at h7 hseg ⊢
   have h9 : ∀ z, z * (4294967296 ^ k * 4294967296) = z * 4294967296 * 4294967296 ^ k := by intro z; grind
   rw [h9]
   omega
theorem X0i.last {X vN n m j g cr : Nat} {u qd u0 l' : List Nat} (h : X0i X vN n m j g n cr u qd u0 l') :
 ∃ low : Nat, u32.wrap (((u.getD (j + n) 0 : Nat) : Int) + u32.wrap (cr : Int)) = (low : Int) ∧ DivI X vN n m j (u.set (j + n) low) (qd.set j (g - 1)) := by
 have hjn := h.jn
 have hT := h.wu.getD (j + n)
 have hcr := h.cr1
 have hlu := h.lu
 have hL : l'.getD (j + n) 0 = u.getD (j + n) 0 := (h.out2 (j + n) (by omega)).symm
 generalize hT' : u.getD (j + n) 0 = T at *
 have K1 : u32.wrap ((T : Int) + u32.wrap (cr : Int)) = (((T + cr) % 4294967296 : Nat) : Int) := by rw [u32w (n := (cr : Int)) (by omega) (by omega), u32m]; omega
 refine ⟨_, K1, ?_⟩
 have hwv := h.wn
 have hvpos := G0u hwv h.n2
 have hvlt : vN < 4294967296 ^ n := by rw [← hwv]; exact H0a vN
 have hlt1 := k08 h.wl j (n + 1)
 have heq := h.eq
 have hge := h.ge
 have hgl := h.gl
 have hW3 : ∃ R, seg u0 j (n + 1) = R + (g - 1) * vN ∧ R < vN ∧ seg l' j (n + 1) + vN = R + 4294967296 ^ (n + 1) := by
  obtain ⟨W3, hW3⟩ : ∃ W3, W3 = seg u0 j (n + 1) := ⟨_, rfl⟩
  rw [← hW3] at heq hge hgl ⊢
  have h2 : W3 / vN < g := by
   rw [Nat.div_lt_iff_lt_mul hvpos]; omega
  have h3 : g - 1 = W3 / vN := by
   have := (Nat.le_div_iff_mul_le hvpos).2 hgl
   omega
  have h4 := Nat.div_add_mod' W3 vN
  have h5 : W3 % vN < vN := Nat.mod_lt _ hvpos
  refine ⟨W3 % vN, by rw [h3]; omega, h5, ?_⟩
  have h6 : g * vN = (g - 1) * vN + vN := by
   obtain ⟨q, rfl⟩ : ∃ q, g = q + 1 := ⟨g - 1, by omega⟩
   rw [Nat.succ_mul, Nat.add_sub_cancel]
  rw [h3] at h6
  omega
 obtain ⟨R, hR1, hR2, hR3⟩ := hW3
 have hfin : seg (u.set (j + n) ((T + cr) % 4294967296)) j (n + 1) = R := by
  rw [e01 rfl (by omega)]
  rw [b01, hL] at hR3
  have hseg := h.val
  rw [Y0m vN (Nat.le_of_eq hwv)] at hseg
  exact j0o (k08 h.wu j n) (by omega) hT hcr hR3 hseg
 have hg1 : g - 1 < 4294967296 := by have := h.g32; omega
 refine h.div.next h.nm hR1 hR2 hg1 (h.wu.set (by omega)) (by simpa using hlu) ?_ (Q0i hfin (by omega))
 rw [f05 (by omega)]
 exact P0i fun i _ hi => (h.out2 i (by omega)).trans (h.out i (by omega))

set_option maxHeartbeats 4000000 in
theorem Q01 {V : View} {s t : Sl} {a b : Nat} (hs : e00 V s a) (ht : e00 V t b) (ha : wn a ≤ 2 ^ 43) (hb0 : b ≠ 0) :
 a00 prog f06 #[s.v, t.v] V fun v V' => ∃ q r : Sl, v = .tuple #[q.v, r.v] ∧ e00 V' q (a / b) ∧ e00 V' r (a % b) := by
 have hsl := hs.len
 have htl := ht.len
 obtain ⟨sh, hsh⟩ : ∃ sh, sh = 32 - bl ((dig b).getD (wn b - 1) 0) := ⟨_, rfl⟩
 obtain ⟨hsh1, hwv, hlo⟩ := i0o hb0 hsh
 obtain ⟨X, hX⟩ : ∃ X, X = a * 2 ^ sh := ⟨_, rfl⟩
 obtain ⟨vN, hvN⟩ : ∃ v, v = b * 2 ^ sh := ⟨_, rfl⟩
 rw [← hvN] at hwv hlo
 obtain ⟨m, hm⟩ : ∃ m, m = s.len + 1 := ⟨_, rfl⟩
 obtain ⟨n, hn⟩ : ∃ n, n = t.len := ⟨_, rfl⟩
 have hna : wn a = s.len := hsl.symm
 have hnb : wn b = n := by rw [hn]; exact htl.symm
 have hal := H0a a
 rw [hna] at ha hal
 rw [hnb] at hwv hlo
 have hcmp := W02 hs ht (by omega)
 obtain ⟨v1, hv1⟩ : ∃ v1, v1 = (dig vN).getD (n - 1) 0 := ⟨_, rfl⟩
 obtain ⟨v2, hv2⟩ : ∃ v2, v2 = (dig vN).getD (n - 2) 0 := ⟨_, rfl⟩
 refine J0f s t V _
  (fun c x V' => ∃ (v : Sl) (j : Nat) (u qd : List Nat), c = z00.mk (sh : Nat) v (n : Nat) (m - n) (m - n) ∧ e00 V' v vN ∧ x = C00.mk ((j : Int) - 1) (wv u) (wv qd) ∧ DivI X vN n m j u qd)
  (fun _ x _ => (x.t13 + 1).toNat)
  (fun c x _ => ∃ (v : Sl) (j g : Nat) (u qd : List Nat), c = q00.mk (sh : Nat) v (n : Nat) (m - n) (m - n) (j : Nat) (wv u) (wv qd) ∧ x = D00.mk (g : Nat) ∧ g < 4294967296 ∧ seg u j (n + 1) / vN ≤ g ∧ (g - 1) * vN ≤ seg u j (n + 1))
  (fun c x _ => ∃ (v : Sl) (j g r : Nat) (u qd : List Nat), c = n00.mk (sh : Nat) v (n : Nat) (m - n) (m - n) (j : Nat) (wv u) (wv qd) ∧ x = s00.mk (g : Nat) (r : Nat) ∧ r < 4294967296 ∧ g * v1 + r = u.getD (j + n) 0 * 4294967296 + u.getD (j + n - 1) 0 ∧
    seg u j (n + 1) / vN ≤ g)
  (fun _ x _ => x.t15.toNat)
  (fun c x _ => ∃ (v : Sl) (j g i cr bo : Nat) (u qd u0 : List Nat), c = E00.mk (sh : Nat) v (n : Nat) (m - n) (m - n) (j : Nat) (g : Nat) ∧ x = M00.mk (bo : Nat) (cr : Nat) (i : Nat) (wv u) (wv qd) ∧ k0l X vN n m j g i cr bo u qd u0)
  (fun _ x _ => (n - x.t19).toNat)
  (fun c x _ => ∃ (v : Sl) (j g k cr : Nat) (u qd u0 l' : List Nat), c = F00.mk (sh : Nat) v (n : Nat) (m - n) (m - n) (j : Nat) ((g - 1 : Nat) : Int) ∧ x = N00.mk (cr : Nat) (k : Nat) (wv u) (wv qd) ∧ 0 < g ∧ X0i X vN n m j g k cr u qd u0 l')
  (fun _ x _ => (n - x.t23).toNat)
  (hcmp.mono fun v V1 l1 hv => ⟨_, hv, fun hlt => ?_, fun hge => ⟨fun h1 => ?_, fun h2 => ?_⟩⟩)
 · -- a below b
   have hlt : a < b := by
    rcases Nat.lt_or_ge a b with h | h
    · exact h
    · exfalso; revert hlt; rw [if_neg (by omega)]; split <;> simp
   exact ⟨_, _, rfl, by rw [Nat.div_eq_of_lt hlt]; exact e00.zero V1, by rw [Nat.mod_eq_of_lt hlt]; exact hs.le l1⟩
 · -- one word
   have h1 : n = 1 := by have : (t.len : Int) = 1 := (by simpa using h1); omega
   have hb1 : b < 4294967296 := by have := H0a b; rw [hnb, h1] at this; simpa using this
   have hd : (dig b).getD 0 0 = b := by rw [x0b]; simp; omega
   have hg := (ht.le l1).get (i := 0) (by omega) (by omega)
   simp only [Int.toNat_zero, hd] at hg
   refine ⟨⟨by omega, by omega, ht.isSome (by omega)⟩, _, hg, ?_⟩
   refine (I0b (hs.le l1) (by omega) (by omega) hb1).mono fun v V2 l2 ⟨q, hv, hq⟩ => ⟨q, _, hv, ?_⟩
   have hmod : a % b < b := Nat.mod_lt _ (by omega)
   rw [u64w (by omega) (by omega)]
   refine (m03 (by omega) (by omega)).mono fun v V3 l3 ⟨r, hv, hr⟩ => ⟨r, hv, q, r, rfl, hq.le l3, ?_⟩
   rw [Int.toNat_natCast] at hr; exact hr
 -- many words
 have hab : b ≤ a := by
  rcases Nat.lt_or_ge a b with h | h
  · exfalso; revert hge; rw [if_pos h]; simp
  · exact h
 have hnm : n ≤ s.len := by rw [← hna, ← hnb]; exact X04 hab
 have hn0 : n ≠ 0 := by rw [← hnb]; intro e; exact hb0 (S02.1 e)
 have hn2 : 2 ≤ n := by have : ¬ (t.len : Int) = 1 := (by simpa using h2); omega
 have E2 : i64.wrap ((s.len : Int) + 1) = (m : Nat) := by rw [i64w (by omega) (by omega)]; omega
 have E3 : i64.wrap ((m : Int) - (n : Int)) = ((m - n : Nat) : Int) := by rw [i64w (by omega) (by omega)]; omega
 have E1 : i64.wrap ((n : Int) - 1) = ((n - 1 : Nat) : Int) := by rw [i64w (by omega) (by omega)]; omega
 have E4 : i64.wrap ((n : Int) - 2) = ((n - 2 : Nat) : Int) := by rw [i64w (by omega) (by omega)]; omega
 have E5 : i64.wrap (((m - n : Nat) : Int) - 1) = ((m - n : Nat) : Int) - 1 := by rw [i64w (by omega) (by omega)]
 have E6 : (t.len : Int) = (n : Nat) := by omega
 have hblb := A0v hb0
 have hbltop : bl ((dig b).getD (wn b - 1) 0) ≤ 32 := by
  have h3 := (j05 hb0).2.2
  have := W09 h3
  have := (i02 b).getD (wn b - 1)
  have := (Nat.pow_lt_pow_iff_right (a := 2) (n := bl ((dig b).getD (wn b - 1) 0) - 1) (m := 32) (by omega)).1 (by omega)
  omega
 have Esh : i64.wrap (i64.wrap (32 * (t.len : Int)) - (bl b : Nat)) = (sh : Nat) := by
  rw [i64w (n := 32 * (t.len : Int)) (by omega) (by omega), i64w (by omega) (by omega)]; omega
 refine (m01 (ht.le l1) (by omega)).mono fun v V4 l4 hv => ⟨_, hv, ?_⟩
 simp only [Esh]
 refine (z01 (ht.le (View.le_trans l1 l4)) (by omega) (by omega)).mono fun v V5 l5 ⟨w, hv, hw⟩ => ⟨w, hv, ?_⟩
 rw [← hvN] at hw
 have hwl : w.len = n := by have := hw.len; simp only [wn] at hwv; omega
 simp only [E2, Int.toNat_natCast, hwl, E3, E1, E4, E5]
 refine ⟨⟨by omega, by omega, by omega, by omega⟩, (z01 (hs.le (View.le_trans l1 (View.le_trans l4 l5))) (by omega) (by omega)).mono fun v V6 l6 ⟨ua, hv, hua⟩ => ⟨ua, hv, ?_⟩⟩
 rw [← hX] at hua
 have hXm : wn X ≤ m := by
  refine f03 ?_
  rw [hX, hm, Nat.pow_succ]
  exact Nat.mul_lt_mul'' hal (Nat.lt_of_le_of_lt (Nat.pow_le_pow_right (by omega) hsh1) (by omega))
 have hual := hua.len
 simp only [wn] at hXm
 refine ⟨wv (dig X), A00.has hua, by rw [g00]; omega, ?_, ?_, ?_, ⟨by omega, by omega, by omega, by omega⟩, ?_⟩
 · by_cases h0 : ua.len = 0
   · left; have : (dig X).length = 0 := by omega
     rw [List.eq_nil_of_length_eq_zero this]; rfl
   · right; exact hua.isSome (by omega)
 · intro v hv; simp only [wv, List.mem_map] at hv; obtain ⟨d, _, rfl⟩ := hv; rfl
 · rw [N02, g00, g00]; simp; omega
 rw [N02, N02, F0r m (dig X) (by omega)]
 have hq0 : seg (dig X ++ List.replicate (m - (dig X).length) 0) 0 m = X := by
  rw [A04 (by simp; omega), P0n, o00]
 have h7 := e0l hal hm hX hsh1 (by omega) (by omega) hlo _ hq0
 refine ⟨⟨w, m - n, _, _, rfl, hw.le l6, rfl, by omega, ?_, by simp; omega, WB.zeros _, by simp, ?_, h7⟩, ?_⟩
 · intro d hd
   rcases List.mem_append.1 hd with hd | hd
   · exact i02 X d hd
   · rw [(List.mem_replicate.1 hd).2]; omega
 · rw [show m - n + n = m by omega, hq0, Nat.sub_self, i03]; simp
 rintro _ V7 hle7 ⟨w', j, u, qd, hc, hw7, rfl, hD⟩
 obtain rfl : w' = w := by simp only [z00.mk.injEq] at hc; exact hc.2.1.symm
 have hjl := hD.jl
 have hlu := hD.lu
 have hlq := hD.lq
 have hwu := hD.wu
 simp only [n0n]
 refine ⟨fun hp => ?_, fun hp b1 V12 l12 hb1 b2 V13 l13 hb2 => ?_⟩
 · simp only [ge_iff_le, decide_eq_true_eq] at hp
   obtain ⟨i, rfl⟩ : ∃ i, j = i + 1 := ⟨j - 1, by omega⟩
   have e0 : (((i + 1 : Nat) : Int) - 1) = (i : Nat) := by omega
   simp only [e0]
   have F1 : i64.wrap ((i : Int) + (n : Int)) = ((i + n : Nat) : Int) := by rw [i64w (by omega) (by omega)]; omega
   have F2 : i64.wrap (((i + n : Nat) : Int) - 1) = ((i + n - 1 : Nat) : Int) := by rw [i64w (by omega) (by omega)]; omega
   have F3 : i64.wrap (((i + n : Nat) : Int) - 2) = ((i + n - 2 : Nat) : Int) := by rw [i64w (by omega) (by omega)]; omega
   have F4 : i64.wrap ((i : Int) - 1) = (i : Int) - 1 := by rw [i64w (by omega) (by omega)]
   simp only [F1, F2, F3, F4, Int.toNat_natCast, Nat.zero_add, Nat.mul_one]
   have G := B0i hwu hn2 hwv hD.lt
   rw [← hv1, ← hv2] at G
   obtain ⟨W, hW⟩ : ∃ W, W = seg u i (n + 1) := ⟨_, rfl⟩
   obtain ⟨u2, hu2⟩ : ∃ x, x = u.getD (i + n) 0 := ⟨_, rfl⟩
   obtain ⟨u1, hu1⟩ : ∃ x, x = u.getD (i + n - 1) 0 := ⟨_, rfl⟩
   obtain ⟨u0, hu0⟩ : ∃ x, x = u.getD (i + n - 2) 0 := ⟨_, rfl⟩
   rw [← hW, ← hu2, ← hu1, ← hu0] at G
   have hu2l : u2 < 4294967296 := by rw [hu2]; exact hwu.getD _
   have hv1l := G.h1
   have hv1p := G.pos
   have hu1l := G.k1
   have hv1b : 2147483648 ≤ v1 := by
    have hvn0 : vN ≠ 0 := by rintro rfl; rw [P03] at hwv; omega
    have h3 := (j05 hvn0).2.1
    rw [hwv, ← hv1] at h3
    have h4 : 2147483648 * 4294967296 ^ (n - 1) < (v1 + 1) * 4294967296 ^ (n - 1) := by omega
    have := Nat.lt_of_mul_lt_mul_right h4
    omega
   have gv1 := (hw7).get (i := ((n - 1 : Nat) : Int)) (by omega) (by omega)
   rw [Int.toNat_natCast, ← hv1, Nat.mul_one] at gv1
   have gv2 := (hw7).get (i := ((n - 2 : Nat) : Int)) (by omega) (by omega)
   rw [Int.toNat_natCast, ← hv2, Nat.mul_one] at gv2
   have hws := hw7.isSome (by omega)
   have hor : BitVec.toNat ((BitVec.ofInt u64.bits (u64.wrap ((u64.wrap (u2 : Int)) * 4294967296))) ||| (BitVec.ofInt u64.bits (u64.wrap (u1 : Int)))) = u2 * 4294967296 + u1 := by
    rw [u64w (n := (u2 : Int)) (by omega) (by omega), u64w (n := (u1 : Int)) (by omega) (by omega), u64w (by omega) (by omega), show (u2 : Int) * 4294967296 = ((u2 * 4294967296 : Nat) : Int) by omega]
    exact or64 hu1l hu2l
   refine ⟨⟨by omega, by omega⟩, _, c05 (by omega), ⟨by omega, by omega⟩, _, c05 (by omega), ⟨by omega, by omega, hws⟩, _, gv1, ?_, ⟨by omega, by omega, hws⟩, _, gv1, ?_, ⟨?_, ?_⟩, ?_⟩
   · rw [u64w (by omega) (by omega)]; omega
   · rw [u64w (by omega) (by omega)]; omega
   · -- the first guess
     rw [← hu2, ← hu1, hor, u64w (n := (v1 : Int)) (by omega) (by omega), u64w (n := ((u2 * 4294967296 + u1 : Nat) : Int)) (by omega) (by omega), ← Int.ofNat_tdiv, ← Int.ofNat_tmod]
     have h3 : (u2 * 4294967296 + u1) / v1 ≤ u2 * 4294967296 + u1 := Nat.div_le_self _ _
     have h4 : (u2 * 4294967296 + u1) % v1 < v1 := Nat.mod_lt _ hv1p
     have h5 := Nat.div_add_mod' (u2 * 4294967296 + u1) v1
     have h6 := G.init
     generalize (u2 * 4294967296 + u1) / v1 = g at *
     generalize (u2 * 4294967296 + u1) % v1 = r at *
     rw [u64w (n := (g : Int)) (by omega) (by omega)]
     refine ⟨w', i, g, r, u, qd, rfl, rfl, by omega, ?_, ?_⟩
     · rw [← hu2, ← hu1]; exact h5
     · rw [← hW]; exact h6
   · -- the guess is put down
     rintro _ V9 l9 ⟨w2, i2, g, r, u', qd', hc2, rfl, hr, hgr, hge⟩
     simp only [n00.mk.injEq] at hc2
     obtain ⟨_, rfl, _, _, _, hi2, hu', hq'⟩ := hc2
     obtain rfl : i2 = i := by omega
     obtain rfl := U0c hu'
     obtain rfl := U0c hq'
     rw [← hu2, ← hu1] at hgr
     rw [← hW] at hge
     have hgl : g < 8589934592 := by
      rcases Nat.lt_or_ge g 8589934592 with h | h
      · exact h
      · exfalso
        have := Nat.mul_le_mul h hv1b
        omega
     have gv1' := m02 l9 gv1
     have gv2' := m02 l9 gv2
     simp only
     -- a step down
     have down : 0 < g → W / vN ≤ g - 1 → (4294967296 ≤ r + v1 → (g - 1 - 1) * vN ≤ W ∧ g - 1 < 4294967296) →
      ((decide (((u64.wrap ((r : Int) + (u64.wrap (v1 : Int)))) : Int) ≥ 4294967296)) = true →
        ∃ (v : Sl) (j g' : Nat) (u1 qd1 : List Nat), q00.mk (sh : Nat) w' (n : Nat) (m - n) (m - n) (i2 : Nat) (wv u) (wv qd) = q00.mk (sh : Nat) v (n : Nat) (m - n) (m - n) (j : Nat) (wv u1) (wv qd1) ∧ D00.mk (u64.wrap ((g : Int) - 1)) = D00.mk (g' : Nat) ∧ g' < 4294967296 ∧ seg u1 j (n + 1) / vN ≤ g' ∧ (g' - 1) * vN ≤ seg u1 j (n + 1)) ∧
      ((decide (((u64.wrap ((r : Int) + (u64.wrap (v1 : Int)))) : Int) ≥ 4294967296)) = false →
        (∃ (v : Sl) (j g' r' : Nat) (u1 qd1 : List Nat), n00.mk (sh : Nat) w' (n : Nat) (m - n) (m - n) (i2 : Nat) (wv u) (wv qd) = n00.mk (sh : Nat) v (n : Nat) (m - n) (m - n) (j : Nat) (wv u1) (wv qd1) ∧
          s00.mk (u64.wrap ((g : Int) - 1)) (u64.wrap ((r : Int) + (u64.wrap (v1 : Int)))) = s00.mk (g' : Nat) (r' : Nat) ∧ r' < 4294967296 ∧ g' * v1 + r' = u1.getD (j + n) 0 * 4294967296 + u1.getD (j + n - 1) 0 ∧ seg u1 j (n + 1) / vN ≤ g') ∧
        (u64.wrap ((g : Int) - 1)).toNat < (g : Int).toNat) := by
      intro h0 h1 h2
      rw [u64w (n := (v1 : Int)) (by omega) (by omega), u64w (n := (r : Int) + v1) (by omega) (by omega), u64w (n := (g : Int) - 1) (by omega) (by omega)]
      have e1 : (g : Int) - 1 = ((g - 1 : Nat) : Int) := by omega
      have e2 : (r : Int) + v1 = ((r + v1 : Nat) : Int) := by omega
      rw [e1, e2]
      refine ⟨fun h => ?_, fun h => ?_⟩
      · simp only [ge_iff_le, decide_eq_true_eq] at h
        obtain ⟨h3, h4⟩ := h2 (by omega)
        exact ⟨w', i2, g - 1, u, qd, rfl, rfl, h4, by rw [← hW]; exact h1, by rw [← hW]; exact h3⟩
      · simp only [ge_iff_le, decide_eq_false_iff_not] at h
        refine ⟨⟨w', i2, g - 1, r + v1, u, qd, rfl, rfl, by omega, ?_, by rw [← hW]; exact h1⟩, by omega⟩
        rw [← hu2, ← hu1, ← hgr]
        obtain ⟨k, rfl⟩ : ∃ k, g = k + 1 := ⟨g - 1, by omega⟩
        rw [Nat.succ_mul, Nat.add_sub_cancel]; omega
     refine ⟨fun hp2 => ⟨fun _ => ?_, fun h => by cases h⟩, fun hp2 => ?_⟩
     · simp only [ge_iff_le, decide_eq_true_eq] at hp2
       have hq := G.quo
       refine ⟨⟨by omega, by omega, hws⟩, _, gv1', ?_⟩
       exact down (by omega) (by omega) (fun h => (G.brk hgr (by omega) h).symm)
     · simp only [ge_iff_le, decide_eq_false_iff_not] at hp2
       have hg32 : g < 4294967296 := by omega
       have hv2l := G.h2
       have hm1 := E0b hg32 hv2l
       have hu0l := G.k0
       refine ⟨⟨by omega, by omega, hws⟩, _, gv2', ⟨by omega, by omega⟩, _, c05 (by omega), ?_⟩
       rw [← hu0]
       have hor2 : BitVec.toNat ((BitVec.ofInt u64.bits (u64.wrap ((r : Int) * 4294967296))) ||| (BitVec.ofInt u64.bits (u64.wrap (u0 : Int)))) = r * 4294967296 + u0 := by
        rw [u64w (n := (u0 : Int)) (by omega) (by omega), u64w (by omega) (by omega), show (r : Int) * 4294967296 = ((r * 4294967296 : Nat) : Int) by omega]
        exact or64 hu0l hr
       rw [hor2, u64w (n := (v2 : Int)) (by omega) (by omega), ← Int.natCast_mul, u64w (n := ((g * v2 : Nat) : Int)) (by omega) (by omega), u64w (n := ((r * 4294967296 + u0 : Nat) : Int)) (by omega) (by omega)]
       refine ⟨fun hp3 => ?_, fun hp3 => ?_⟩
       · simp only [gt_iff_lt, decide_eq_true_eq] at hp3
         have hd := G.dec hgr (by omega)
         refine ⟨⟨by omega, by omega, hws⟩, _, gv1', ?_⟩
         have hg0 : 0 < g := Nat.lt_of_le_of_lt (Nat.zero_le _) hd
         exact down hg0 (Nat.le_sub_one_of_lt hd) (fun h => (G.brk hgr hg0 h).symm)
       · simp only [gt_iff_lt, decide_eq_false_iff_not] at hp3
         exact ⟨w', i2, g, u, qd, rfl, rfl, hg32, by rw [← hW]; exact hge, by rw [← hW]; exact G.exit hgr hg32 (by omega)⟩
   · -- the guess is taken
     rintro _ V8 l8 ⟨w2, i2, g, u', qd', hc2, rfl, hg32, hge, hgl⟩
     simp only [q00.mk.injEq] at hc2
     obtain ⟨_, rfl, _, _, _, hi2, hu', hq'⟩ := hc2
     obtain rfl : i2 = i := by omega
     obtain rfl := U0c hu'
     obtain rfl := U0c hq'
     refine ⟨⟨w', i2, g, 0, 0, 0, u, qd, u, rfl, rfl, hD, hn2, by omega, hwv, hg32, hge, hgl, by omega, hwu, hlu, by omega, by omega, fun _ _ => rfl, by simp [i03, wval]⟩, ?_⟩
     clear G hge hgl gv1 gv2 hor hq0 h7 hXm hual hua hcmp hlo hX hvN hsh hblb hbltop Esh hv1 hv2 hu2 hu1 hu0 hW
     rintro _ V10 l10 ⟨w2, i9, g9, k, c0, b0, u9, qd9, u00, hc9, rfl, hT⟩
     simp only [E00.mk.injEq] at hc9
     obtain ⟨_, rfl, _, _, _, hi9, hgg⟩ := hc9
     obtain rfl : i2 = i9 := by omega
     obtain rfl : g = g9 := by omega
     have hjn := hT.jn
     have hkn := hT.i_le
     have hlu9 := hT.lu
     have hlq9 := hT.div.lq
     have hme : ((i2 : Int) - 1 + 1).toNat < (((i2 + 1 : Nat) : Int)).toNat := by omega
     simp only [q0s, Int.toNat_natCast]
     refine ⟨fun hp2 => ?_, fun hp2 => ?_⟩
     · simp only [decide_eq_true_eq] at hp2
       have hkn : k < n := by omega
       have K1 : i64.wrap ((k : Int) + i2) = ((i2 + k : Nat) : Int) := by rw [i64w (by omega) (by omega)]; omega
       simp only [K1, Int.toNat_natCast]
       have gk := (hw7.le (View.le_trans l8 l10)).get (i := (k : Nat)) (by omega) (by omega)
       simp only [Int.toNat_natCast, Nat.mul_one] at gk
       refine ⟨⟨by omega, by omega, hws⟩, _, gk, ⟨by omega, by omega⟩, _, c05 (by omega), ⟨by omega, by omega⟩, by rw [g00]; omega, ?_⟩
       obtain ⟨low, br, c, e1, e2, e3, hT'⟩ := hT.step hkn
       rw [e1, e2, e3, O02, i64w (n := (k : Int) + 1) (by omega) (by omega)]
       exact ⟨⟨w', i2, g, k + 1, c, br, _, qd9, u00, rfl, rfl, hT'⟩, by omega⟩
     simp only [decide_eq_false_iff_not] at hp2
     obtain rfl : n = k := by omega
     refine ⟨⟨by omega, by omega⟩, _, c05 (by omega), ⟨by omega, by omega⟩, by rw [g00]; omega, ?_⟩
     obtain ⟨low, br, e1, e2, hl', hb1, hb0⟩ := hT.last
     rw [e1, e2, O02]
     refine ⟨fun hn1 => ?_, fun hn1 => ?_⟩
     · -- one too many: it is added back
       obtain ⟨hB, hg0⟩ := hb1 (by have : (br : Int) = 1 := (by simpa using hn1); omega)
       rw [u64w (n := (g : Int) - 1) (by omega) (by omega), show (g : Int) - 1 = ((g - 1 : Nat) : Int) by omega]
       refine ⟨⟨w', i2, g, 0, 0, _, qd9, u00, _, rfl, rfl, hg0, hB⟩, ?_⟩
       clear hT hB hb1 hb0 hl' e1 e2
       rintro _ V11 l11 ⟨w3, i3, g3, k3, cr, u3, qd3, u03, l3, hc3, rfl, hg3, hB⟩
       simp only [F00.mk.injEq] at hc3
       obtain ⟨_, rfl, _, _, _, hi3, hg3'⟩ := hc3
       obtain rfl : i2 = i3 := by omega
       obtain rfl : g = g3 := by omega
       have hjn := hB.jn
       have hkn := hB.k_le
       have hlu3 := hB.lu
       have hlq3 := hB.div.lq
       simp only [Int.toNat_natCast]
       refine ⟨fun hp4 => ?_, fun hp4 => ?_⟩
       · simp only [decide_eq_true_eq] at hp4
         have hkn : k3 < n := by omega
         have K1 : i64.wrap ((k3 : Int) + i2) = ((i2 + k3 : Nat) : Int) := by rw [i64w (by omega) (by omega)]; omega
         simp only [K1, Int.toNat_natCast]
         have gk := (hw7.le (View.le_trans l8 (View.le_trans l10 l11))).get (i := (k3 : Nat)) (by omega) (by omega)
         simp only [Int.toNat_natCast, Nat.mul_one] at gk
         refine ⟨⟨by omega, by omega⟩, _, c05 (by omega), ⟨by omega, by omega, hws⟩, _, gk, ⟨by omega, by omega⟩, by rw [g00]; omega, ?_⟩
         obtain ⟨low, c, e1, e2, hB'⟩ := hB.step hkn
         rw [e1, e2, O02, i64w (n := (k3 : Int) + 1) (by omega) (by omega)]
         exact ⟨⟨w', i2, g, k3 + 1, c, _, qd3, u03, l3, rfl, rfl, hg3, hB'⟩, by omega⟩
       · simp only [decide_eq_false_iff_not] at hp4
         obtain rfl : n = k3 := by omega
         refine ⟨⟨by omega, by omega⟩, _, c05 (by omega), ⟨by omega, by omega⟩, by rw [g00]; omega, ⟨by omega, by omega⟩, by rw [g00]; omega, ?_⟩
         obtain ⟨low, e1, hD'⟩ := hB.last
         rw [u32w (n := ((g - 1 : Nat) : Int)) (by omega) (by omega), e1, O02, O02]
         exact ⟨⟨w', i2, _, _, rfl, hw7.le (View.le_trans l8 (View.le_trans l10 l11)), rfl, hD'⟩, hme⟩
     · -- the guess is right
       have hD' := hb0 (fun h => by rw [h] at hn1; simp at hn1)
       rw [u32w (n := (g : Int)) (by omega) (by omega), O02]
       exact ⟨⟨by omega, by omega⟩, by rw [g00]; omega, ⟨w', i2, _, _, rfl, hw7.le (View.le_trans l8 l10), rfl, hD'⟩, hme⟩
 · -- the end
   simp only [ge_iff_le, decide_eq_false_iff_not] at hp
   obtain rfl : j = 0 := by omega
   have heq := hD.eq
   have hlt0 := hD.lt
   rw [Nat.zero_add, Nat.pow_zero, Nat.one_mul, Nat.sub_zero] at heq
   obtain ⟨hq1, hr1⟩ := k0o hX hvN hb0 heq hlt0
   have hwq : A00 V12 (Sl.mk (some (Addr.mk b1 0 none)) (m - n) (m - n)) qd := A00.of_block hb1 (by omega) (Nat.le_refl _) hD.wq
   have hwr : A00 V13 (Sl.mk (some (Addr.mk b2 0 none)) m m) u := A00.of_block hb2 (by omega) (Nat.le_refl _) hwu
   refine ⟨⟨by omega, by omega, by omega⟩, (d02 (A00.le l13 hwq) (by omega)).mono fun v V14 l14 ⟨q, hv, hq⟩ => ⟨q, hv, ?_⟩⟩
   have hwr2 : A00 V14 (Sl.mk (some (Addr.mk b2 0 none)) n m) (u.take n) := A00.le l14 (A00.pre hwr (k := n) (c := m) (by omega) (by omega))
   have hl50 : (u.take n).length ≤ 2 ^ 50 := by rw [List.length_take]; omega
   have hz : Int.toNat 0 = 0 := rfl
   have hm0 : ¬ m = 0 := by omega
   have hadd : Option.map (fun q => Addr.add q 0) (some (Addr.mk b2 0 none)) = some (Addr.mk b2 0 none) := by simp [Addr.add]
   simp only [hz, hm0, if_false, Nat.zero_mul, hadd, Nat.sub_zero]
   have htr := d02 hwr2 hl50
   refine htr.mono fun v V15 l15 ⟨r, hv, hr⟩ => ⟨r, hv, ?_⟩
   rw [← y0i] at hr
   have hrw : wn (seg u 0 n) ≤ 2 ^ 44 := by
    have := f03 (k08 hwu 0 n)
    omega
   refine (x03 hr hrw (by omega)).mono fun v V16 l16 ⟨r2, hv, hr2⟩ => ⟨r2, hv, q, r2, rfl, ?_, ?_⟩
   · rw [← hq1, A04 (by omega)]; exact hq.le (View.le_trans l15 l16)
   · rw [← hr1]; exact hr2

theorem n08 {V : View} {s t : Sl} {a b : Nat} (hs : e00 V s a) (ht : e00 V t b) (ha : wn a ≤ 2 ^ 43) (hb : wn b ≤ 2 ^ 43) :
 a00 prog G0h #[s.v, t.v] V fun v V' => ∃ r : Sl, v = r.v ∧ e00 V' r (Nat.gcd a b) := by
 refine D0f s t V _ (fun _ x V' => ∃ a' b', e00 V' x.t0 a' ∧ e00 V' x.t1 b' ∧ wn a' ≤ 2 ^ 43 ∧ wn b' ≤ 2 ^ 43 ∧ Nat.gcd a' b' = Nat.gcd a b) (fun _ x V' => M0c V' x.t1) ⟨⟨a, b, hs, ht, ha, hb, rfl⟩, ?_⟩
 rintro ⟨x, y⟩ V1 l1 ⟨a', b', hx, hy, wa, wb, hg⟩
 simp only at hx hy ⊢
 have hyl := hy.len
 refine ⟨fun hp => ?_, fun hp => ?_⟩
 · simp only [gt_iff_lt, decide_eq_true_eq] at hp
   have hb0 : b' ≠ 0 := fun e => by rw [← hy.len_zero] at e; omega
   refine (Q01 hx hy wa hb0).mono fun v V2 l2 ⟨q, r, hv, hq, hr⟩ => ⟨q, r, hv, ?_⟩
   have hlt : a' % b' < b' := Nat.mod_lt _ (by omega)
   have hwr : wn (a' % b') ≤ wn b' := X04 (Nat.le_of_lt hlt)
   refine ⟨⟨b', a' % b', hy.le l2, hr, wb, by omega, ?_⟩, ?_⟩
   · rw [Nat.gcd_comm, ← Nat.gcd_rec, Nat.gcd_comm]; exact hg
   · rw [L05 hr, L05 hy]; exact hlt
 · simp only [gt_iff_lt, decide_eq_false_iff_not] at hp
   have hb0 : b' = 0 := hy.len_zero.1 (by omega)
   subst hb0
   rw [Nat.gcd_zero_right] at hg
   exact ⟨x, rfl, by rw [← hg]; exact hx⟩
theorem A01 {V : View} {s : Sl} {n : Nat} (neg : Bool) (h : e00 V s n) :
 a00 prog e06 #[.bool neg, s.v] V fun v V' => ∃ r : WhV, v = r.val ∧ I00 V' r (if neg = true then -(n : Int) else n) := by
 have hl := h.len_zero
 refine E0f neg s V _ ⟨fun hn => ⟨_, rfl, ?_, ?_⟩, fun hn => ⟨_, rfl, ?_, ?_⟩⟩
 · rw [if_pos hn]; simp only [gt_iff_lt, decide_eq_decide]; omega
 · rw [if_pos hn]; simpa using h
 · rw [if_neg (by simp [hn])]; symm; simp only [decide_eq_false_iff_not]; omega
 · rw [if_neg (by simp [hn])]; simpa using h
theorem n03 {V : View} {n : Int} (h0 : -9223372036854775808 ≤ n) (h1 : n ≤ 9223372036854775807) :
 a00 prog U0j #[.int .i64 n] V fun v V' => ∃ r : WhV, v = r.val ∧ I00 V' r n := by
 refine g0i n V _ ⟨fun hn => ?_, fun hn => ?_⟩
 · simp only [decide_eq_true_eq] at hn
   have e : u64.wrap (i64.wrap (0 - n)) = -n := by
    by_cases hm : n = -9223372036854775808
    · subst hm; decide
    · rw [i64w (by omega) (by omega), u64w (by omega) (by omega)]; omega
   rw [e]
   refine (m03 (by omega) (by omega)).mono fun v V1 _ ⟨r, hv, hr⟩ => ⟨r, hv, _, rfl, by simp [hn], ?_⟩
   have e2 : n.natAbs = (-n).toNat := by omega
   rw [e2]; exact hr
 · simp only [decide_eq_false_iff_not] at hn
   rw [u64w (by omega) (by omega)]
   refine (m03 (by omega) (by omega)).mono fun v V1 _ ⟨r, hv, hr⟩ => ⟨r, hv, _, rfl, by simp [hn], ?_⟩
   have e2 : n.natAbs = n.toNat := by omega
   rw [e2]; exact hr
theorem w04 {V : View} {x : WhV} {a : Int} (h : I00 V x a) :
 a00 prog E0h #[x.val] V fun v V' => ∃ r : WhV, v = r.val ∧ I00 V' r (-a) := by
 refine F0f x V _ ((A01 (!x.neg) h.2).mono fun v V1 _ ⟨r, hv, hr⟩ => ⟨r, hv, r, rfl, ?_⟩)
 have e : (if (!x.neg) = true then -(a.natAbs : Int) else (a.natAbs : Int)) = -a := by
  rw [h.1]; simp only [Bool.not_eq_true', decide_eq_false_iff_not]; split <;> omega
 rw [e] at hr; exact hr
theorem x04 {V : View} {x y : WhV} {a b : Int} (hx : I00 V x a) (hy : I00 V y b) (ha : wn a.natAbs ≤ 2 ^ 43) (hb : wn b.natAbs ≤ 2 ^ 43) :
 a00 prog J0h #[x.val, y.val] V fun v V' => ∃ r : WhV, v = r.val ∧ I00 V' r (a + b) := by
 have h1 := hx.1
 have h2 := hy.1
 refine I0f x y V _ ⟨fun hs => ?_, fun hs => ?_⟩
 · refine (a06 hx.2 hy.2 (by omega) (by omega)).mono fun v V1 l1 ⟨r, hv, hr⟩ => ⟨r, hv, ?_⟩
   refine (A01 x.neg hr).mono fun v V2 _ ⟨w, hv, hw⟩ => ⟨w, hv, w, rfl, ?_⟩
   have e : (if x.neg = true then -((a.natAbs + b.natAbs : Nat) : Int) else ((a.natAbs + b.natAbs : Nat) : Int)) = a + b := by
    rw [h1, h2] at hs; rw [h1]
    by_cases p : a < 0 <;> by_cases q : b < 0 <;> simp [p, q] at hs ⊢ <;> omega
   rw [e] at hw; exact hw
 · refine (W02 hx.2 hy.2 (by omega)).mono fun v V1 l1 hv => ⟨_, hv, fun hc => ?_, fun hc => ?_⟩
   · have hc : b.natAbs ≤ a.natAbs := by
       rcases Nat.lt_or_ge a.natAbs b.natAbs with h | h
       · rw [if_pos h] at hc; simp at hc
       · exact h
     refine (m08 (hx.2.le l1) (hy.2.le l1) (by omega) hc).mono fun v V2 l2 ⟨r, hv, hr⟩ => ⟨r, hv, ?_⟩
     refine (A01 x.neg hr).mono fun v V3 _ ⟨w, hv, hw⟩ => ⟨w, hv, w, rfl, ?_⟩
     have e : (if x.neg = true then -((a.natAbs - b.natAbs : Nat) : Int) else ((a.natAbs - b.natAbs : Nat) : Int)) = a + b := by
      rw [h1, h2] at hs; rw [h1]
      by_cases p : a < 0 <;> by_cases q : b < 0 <;> simp [p, q] at hs ⊢ <;> omega
     rw [e] at hw; exact hw
   · have hc : a.natAbs ≤ b.natAbs := by
       rcases Nat.lt_or_ge b.natAbs a.natAbs with h | h
       · rw [if_neg (by omega), if_neg (by omega)] at hc; simp at hc
       · exact h
     refine (m08 (hy.2.le l1) (hx.2.le l1) (by omega) hc).mono fun v V2 l2 ⟨r, hv, hr⟩ => ⟨r, hv, ?_⟩
     refine (A01 y.neg hr).mono fun v V3 _ ⟨w, hv, hw⟩ => ⟨w, hv, w, rfl, ?_⟩
     have e : (if y.neg = true then -((b.natAbs - a.natAbs : Nat) : Int) else ((b.natAbs - a.natAbs : Nat) : Int)) = a + b := by
      rw [h1, h2] at hs; rw [h2]
      by_cases p : a < 0 <;> by_cases q : b < 0 <;> simp [p, q] at hs ⊢ <;> omega
     rw [e] at hw; exact hw
theorem x0d {V : View} {x y : WhV} {a b : Int} (hx : I00 V x a) (hy : I00 V y b) (ha : wn a.natAbs ≤ 2 ^ 43) (hb : wn b.natAbs ≤ 2 ^ 43) :
 a00 prog M0h #[x.val, y.val] V fun v V' => ∃ r : WhV, v = r.val ∧ I00 V' r (a - b) := by
 refine G0f x y V _ ((w04 hy).mono fun v V1 l1 ⟨r, hv, hr⟩ => ⟨r, hv, ?_⟩)
 rw [Int.sub_eq_add_neg]
 exact (x04 (hx.le l1) hr ha (by rw [Int.natAbs_neg]; exact hb)).mono fun v V2 _ ⟨w, hv, hw⟩ => ⟨w, hv, w, rfl, hw⟩
theorem j01 {V : View} {x y : WhV} {a b : Int} (hx : I00 V x a) (hy : I00 V y b) (ha : wn a.natAbs ≤ 2 ^ 43) (hb : wn b.natAbs ≤ 2 ^ 43) :
 a00 prog K0h #[x.val, y.val] V fun v V' => ∃ r : WhV, v = r.val ∧ I00 V' r (a * b) := by
 refine H0f x y V _ ((u04 hx.2 hy.2 (by omega) (by omega)).mono fun v V1 l1 ⟨r, hv, hr⟩ => ⟨r, hv, ?_⟩)
 refine (A01 (!(x.neg == y.neg)) hr).mono fun v V2 _ ⟨w, hv, hw⟩ => ⟨w, hv, w, rfl, ?_⟩
 have e : (if (!(x.neg == y.neg)) = true then -((a.natAbs * b.natAbs : Nat) : Int) else ((a.natAbs * b.natAbs : Nat) : Int)) = a * b := by
  rw [l0o _ _ a b rfl rfl, hx.1, hy.1]
  by_cases p : a < 0 <;> by_cases q : b < 0 <;> simp [p, q]
 rw [e] at hw; exact hw
theorem e00.lit {V : View} {b n : Nat} (h : V b = some #[.int .u32 (n : Int)]) (h0 : n ≠ 0) (h1 : n < 4294967296) : e00 V (Sl.mk (some (Addr.mk b 0 none)) 1 1) n := by
 have e : dig n = [n] := by
  have h2 : n / 4294967296 = 0 := Nat.div_eq_of_lt h1
  rw [A03 h0, h2, w02, Nat.mod_eq_of_lt h1]
 unfold e00
 rw [e]
 exact A00.of_block (by rw [h]; rfl) rfl (Nat.le_refl _) (by intro d hd; simp at hd; omega)
theorem z0s : dig 1 = [1] := by rw [A03 (by omega)]; simp [w02]
theorem I00.ofNat {V : View} {s : Sl} {n : Nat} (h : e00 V s n) : I00 V (WhV.mk false s) (n : Int) := ⟨by simp, h⟩
theorem e02 {V : View} {x y : WhV} {s : Sl} {z : Cq} {a b : Int} {d : Nat} (hx : I00 V x a) (hy : I00 V y b) (hs : e00 V s d) (hz : Rep z a b d) (ha : wn a.natAbs ≤ 2 ^ 43) (hb : wn b.natAbs ≤ 2 ^ 43) (hd : wn d ≤ 2 ^ 43) :
 a00 prog P07 #[x.val, y.val, s.v] V fun v V' => ∃ r : NumV, v = r.val ∧ QAt V' r z := by
 obtain ⟨e1, e2, e3⟩ := hz.eqs
 have hp := C0i a b hz.pos
 have d1 := z0b a b d
 have d2 := A0b a b d
 have d3 := A0e a b d
 refine t0k x y s V _ ((n08 hx.2 hy.2 ha hb).mono fun v V1 l1 ⟨r1, hv, h1⟩ => ⟨r1, hv, ?_⟩)
 have hw1 : wn (Nat.gcd a.natAbs b.natAbs) ≤ 2 ^ 43 := by
  rcases Nat.eq_zero_or_pos a.natAbs with h | h
  · rw [h, Nat.gcd_zero_left]; exact hb
  · exact Nat.le_trans (X04 (Nat.le_of_dvd h (Nat.gcd_dvd_left _ _))) ha
 refine (n08 h1 (hs.le l1) hw1 hd).mono fun v V2 l2 ⟨r2, hv, h2⟩ => ⟨r2, hv, ?_⟩
 have hg : Nat.gcd (Nat.gcd a.natAbs b.natAbs) d = gcd3 a b d := rfl
 rw [hg] at h2
 have l02 := View.le_trans l1 l2
 have h2l := h2.len
 have many : gcd3 a b d ≠ 1 → a00 prog f06 #[x.mag.v, r2.v] V2 fun v V8 => ∃ (r11 : Sl) (r12 : Sl), v = .tuple #[r11.v, r12.v] ∧
  a00 prog f06 #[y.mag.v, r2.v] V8 fun v V9 => ∃ (r13 : Sl) (r14 : Sl), v = .tuple #[r13.v, r14.v] ∧
  a00 prog f06 #[s.v, r2.v] V9 fun v V10 => ∃ (r15 : Sl) (r16 : Sl), v = .tuple #[r15.v, r16.v] ∧
  a00 prog e06 #[.bool x.neg, r11.v] V10 fun v V11 => ∃ r17 : WhV, v = r17.val ∧
  a00 prog e06 #[.bool y.neg, r13.v] V11 fun v V12 => ∃ r18 : WhV, v = r18.val ∧ ∃ r : NumV, (NumV.mk r17 r18 r15).val = r.val ∧ QAt V12 r z := by
  intro _
  refine (Q01 (hx.2.le l02) h2 ha (by omega)).mono fun v V4 l4 ⟨q1, m1, hv, hq1, _⟩ => ⟨q1, m1, hv, ?_⟩
  refine (Q01 (hy.2.le (View.le_trans l02 l4)) (h2.le l4) hb (by omega)).mono fun v V5 l5 ⟨q2, m2, hv, hq2, _⟩ => ⟨q2, m2, hv, ?_⟩
  have l45 := View.le_trans l4 l5
  refine (Q01 (hs.le (View.le_trans l02 l45)) (h2.le l45) hd (by omega)).mono fun v V6 l6 ⟨q3, m3, hv, hq3, _⟩ => ⟨q3, m3, hv, ?_⟩
  refine (A01 x.neg (hq1.le (View.le_trans l5 l6))).mono fun v V7 l7 ⟨w1, hv, hw1⟩ => ⟨w1, hv, ?_⟩
  refine (A01 y.neg (hq2.le (View.le_trans l6 l7))).mono fun v V8 l8 ⟨w2, hv, hw2⟩ => ⟨w2, hv, _, rfl, ?_, ?_, ?_⟩
  · rw [e1]
    have e : (if x.neg = true then -((a.natAbs / gcd3 a b d : Nat) : Int) else ((a.natAbs / gcd3 a b d : Nat) : Int)) = a / (gcd3 a b d : Nat) := by
     have k1 := G04 d1
     have k2 := Y07 d1 hp
     rw [← k1, hx.1]
     have k3 : (a / (gcd3 a b d : Nat) < 0) ↔ a < 0 := by simpa using k2
     simp only [decide_eq_true_eq]
     split <;> omega
    rw [e] at hw1; exact hw1.le l8
  · rw [e2]
    have e : (if y.neg = true then -((b.natAbs / gcd3 a b d : Nat) : Int) else ((b.natAbs / gcd3 a b d : Nat) : Int)) = b / (gcd3 a b d : Nat) := by
     have k1 := G04 d2
     have k2 := Y07 d2 hp
     rw [← k1, hy.1]
     have k3 : (b / (gcd3 a b d : Nat) < 0) ↔ b < 0 := by simpa using k2
     simp only [decide_eq_true_eq]
     split <;> omega
    rw [e] at hw2; exact hw2
  · rw [e3]; exact hq3.le (View.le_trans l7 l8)
 refine ⟨fun hn => ?_, fun hn => ⟨fun h => absurd h (by simp), fun _ => ?_⟩⟩
 · have hn : r2.len = 1 := by have : (r2.len : Int) = 1 := (by simpa using hn); omega
   refine ⟨⟨by omega, by omega, h2.isSome (by omega)⟩, _, h2.get (by omega) (by omega), fun hw => ?_, fun hw => ?_⟩
   · have hw : (dig (gcd3 a b d)).getD 0 0 = 1 := by have : (((dig (gcd3 a b d)).getD 0 0 : Nat) : Int) = 1 := of_decide_eq_true (by rw [← hw]; rfl); omega
     have hg1 : gcd3 a b d = 1 := by
      rw [hn] at h2l
      have h3 := o00 (gcd3 a b d)
      obtain ⟨w, hw'⟩ : ∃ w, dig (gcd3 a b d) = [w] := List.length_eq_one_iff.1 h2l.symm
      rw [hw'] at hw h3
      simp [wval] at hw h3
      omega
     rw [hg1] at e1 e2 e3
     simp only [Int.natCast_one, Int.ediv_one] at e1 e2
     rw [Nat.div_one] at e3
     exact ⟨_, rfl, by rw [e1]; exact hx.le l02, by rw [e2]; exact hy.le l02, by rw [e3]; exact hs.le l02⟩
   · refine many fun h => ?_
     rw [h, z0s] at hw; simp at hw
 · refine many fun h => ?_
   rw [h, z0s] at h2l
   rw [h2l] at hn; simp at hn
theorem Q03 {V : View} {n : Int} (h0 : -9223372036854775808 ≤ n) (h1 : n ≤ 9223372036854775807) :
 a00 prog A08 #[.int .i64 n] V fun v V' => ∃ r : NumV, v = r.val ∧ QAt V' r ⟨(n : Rat), 0⟩ := by
 obtain ⟨e1, e2, e3⟩ := b07 n
 refine i0i n V _ ((n03 h0 h1).mono fun v V1 _ ⟨r, hv, hr⟩ => ⟨r, hv, fun b V2 l2 _ hb => ⟨_, rfl, by rw [e1]; exact hr.le l2, by rw [e2]; exact I00.zero _, by rw [e3]; exact e00.lit hb (by omega) (by omega)⟩⟩)
theorem a04 {V : View} {x y : NumV} {z w : Cq} (hx : QAt V x z) (hy : QAt V y w) (hz : z.sz ≤ 2 ^ 40) (hw : w.sz ≤ 2 ^ 40) :
 a00 prog g0c #[x.val, y.val] V fun v V' => ∃ r : NumV, v = r.val ∧ QAt V' r (z + w) := by
 have zA := Cq.wA hz; have zB := Cq.wB hz; have zD := Cq.wD hz
 have wA := Cq.wA hw; have wB := Cq.wB hw; have wD := Cq.wD hw
 have zD' : wn (z.D : Int).natAbs ≤ 2 ^ 35 := zD
 have wD' : wn (w.D : Int).natAbs ≤ 2 ^ 35 := wD
 have s1 := j02 zA wD'; have s2 := j02 wA zD'; have s3 := j02 zB wD'; have s4 := j02 wB zD'
 have s5 := d08 s1 s2; have s6 := d08 s3 s4
 have s7 := K05 z.D w.D
 refine H0m x y V _ ((j01 hx.re (I00.ofNat hy.under) (by omega) (by omega)).mono fun v V1 l1 ⟨r1, hv, h1⟩ => ⟨r1, hv, ?_⟩)
 replace hx := hx.le l1; replace hy := hy.le l1
 refine (j01 hy.re (I00.ofNat hx.under) (by omega) (by omega)).mono fun v V2 l2 ⟨r2, hv, h2⟩ => ⟨r2, hv, ?_⟩
 replace hx := hx.le l2; replace hy := hy.le l2; replace h1 := h1.le l2
 refine (x04 h1 h2 (by omega) (by omega)).mono fun v V3 l3 ⟨r3, hv, h3⟩ => ⟨r3, hv, ?_⟩
 replace hx := hx.le l3; replace hy := hy.le l3
 refine (j01 hx.im (I00.ofNat hy.under) (by omega) (by omega)).mono fun v V4 l4 ⟨r4, hv, h4⟩ => ⟨r4, hv, ?_⟩
 replace hx := hx.le l4; replace hy := hy.le l4; replace h3 := h3.le l4
 refine (j01 hy.im (I00.ofNat hx.under) (by omega) (by omega)).mono fun v V5 l5 ⟨r5, hv, h5⟩ => ⟨r5, hv, ?_⟩
 replace hx := hx.le l5; replace hy := hy.le l5; replace h3 := h3.le l5; replace h4 := h4.le l5
 refine (x04 h4 h5 (by omega) (by omega)).mono fun v V6 l6 ⟨r6, hv, h6⟩ => ⟨r6, hv, ?_⟩
 replace hx := hx.le l6; replace hy := hy.le l6; replace h3 := h3.le l6
 refine (u04 hx.under hy.under (by omega) (by omega)).mono fun v V7 l7 ⟨r7, hv, h7⟩ => ⟨r7, hv, ?_⟩
 exact (e02 (h3.le l7) (h6.le l7) h7 (z.canon.rep.add w.canon.rep) (by omega) (by omega) (by omega)).mono fun v V10 _ ⟨r, hv, hr⟩ => ⟨r, hv, r, rfl, hr⟩
theorem e08 {V : View} {x : NumV} {z : Cq} (hx : QAt V x z) : a00 prog p09 #[x.val] V fun v V' => ∃ r : NumV, v = r.val ∧ QAt V' r (-z) := by
 obtain ⟨e1, e2, e3⟩ := z.neg_eqs
 refine J0m x V _ ((w04 hx.re).mono fun v V1 l1 ⟨r1, hv, h1⟩ => ⟨r1, hv, ?_⟩)
 exact (w04 (hx.im.le l1)).mono fun v V2 l2 ⟨r2, hv, h2⟩ => ⟨r2, hv, _, rfl, by rw [e1]; exact h1.le l2, by rw [e2]; exact h2, by rw [e3]; exact hx.under.le (View.le_trans l1 l2)⟩
theorem j07 {V : View} {x : NumV} {z : Cq} (hx : QAt V x z) : a00 prog w0m #[x.val] V fun v V' => ∃ r : NumV, v = r.val ∧ QAt V' r z.conj := by
 obtain ⟨e1, e2, e3⟩ := z.conj_eqs
 exact u0k x V _ ((w04 hx.im).mono fun v V1 l1 ⟨r1, hv, h1⟩ => ⟨r1, hv, _, rfl, by rw [e1]; exact hx.re.le l1, by rw [e2]; exact h1, by rw [e3]; exact hx.under.le l1⟩)
theorem Y0i {V : View} {x y : NumV} {z w : Cq} (hx : QAt V x z) (hy : QAt V y w) (hz : z.sz ≤ 2 ^ 40) (hw : w.sz ≤ 2 ^ 40) :
 a00 prog s0p #[x.val, y.val] V fun v V' => ∃ r : NumV, v = r.val ∧ QAt V' r (z - w) := by
 refine K0m x y V _ ((e08 hy).mono fun v V1 l1 ⟨r1, hv, h1⟩ => ⟨r1, hv, ?_⟩)
 rw [Cq.sub_eq]
 exact (a04 (hx.le l1) h1 hz (by rw [j09]; exact hw)).mono fun v V2 _ ⟨r, hv, hr⟩ => ⟨r, hv, r, rfl, hr⟩
theorem a03 {V : View} {x y : NumV} {z w : Cq} (hx : QAt V x z) (hy : QAt V y w) (hz : z.sz ≤ 2 ^ 40) (hw : w.sz ≤ 2 ^ 40) :
 a00 prog E0g #[x.val, y.val] V fun v V' => ∃ r : NumV, v = r.val ∧ QAt V' r (z * w) := by
 have zA := Cq.wA hz; have zB := Cq.wB hz; have zD := Cq.wD hz
 have wA := Cq.wA hw; have wB := Cq.wB hw; have wD := Cq.wD hw
 have s1 := j02 zA wA; have s2 := j02 zB wB; have s2' := s0s s2; have s3 := j02 zA wB; have s4 := j02 zB wA
 have s5 := d08 s1 s2'; have s6 := d08 s3 s4
 rw [← Int.sub_eq_add_neg] at s5
 have s7 := K05 z.D w.D
 refine I0m x y V _ ((j01 hx.re hy.re (by omega) (by omega)).mono fun v V1 l1 ⟨r1, hv, h1⟩ => ⟨r1, hv, ?_⟩)
 replace hx := hx.le l1; replace hy := hy.le l1
 refine (j01 hx.im hy.im (by omega) (by omega)).mono fun v V2 l2 ⟨r2, hv, h2⟩ => ⟨r2, hv, ?_⟩
 replace hx := hx.le l2; replace hy := hy.le l2; replace h1 := h1.le l2
 refine (x0d h1 h2 (by omega) (by omega)).mono fun v V4 l4 ⟨r4, hv, h4⟩ => ⟨r4, hv, ?_⟩
 replace hx := hx.le l4; replace hy := hy.le l4
 refine (j01 hx.re hy.im (by omega) (by omega)).mono fun v V5 l5 ⟨r5, hv, h5⟩ => ⟨r5, hv, ?_⟩
 replace hx := hx.le l5; replace hy := hy.le l5; replace h4 := h4.le l5
 refine (j01 hx.im hy.re (by omega) (by omega)).mono fun v V6 l6 ⟨r6, hv, h6⟩ => ⟨r6, hv, ?_⟩
 replace hx := hx.le l6; replace hy := hy.le l6; replace h4 := h4.le l6; replace h5 := h5.le l6
 refine (x04 h5 h6 (by omega) (by omega)).mono fun v V7 l7 ⟨r7, hv, h7⟩ => ⟨r7, hv, ?_⟩
 replace hx := hx.le l7; replace hy := hy.le l7; replace h4 := h4.le l7
 refine (u04 hx.under hy.under (by omega) (by omega)).mono fun v V10 l10 ⟨r10, hv, h10⟩ => ⟨r10, hv, ?_⟩
 exact (e02 (h4.le l10) (h7.le l10) h10 (z.canon.rep.mul w.canon.rep) (by omega) (by omega) (by omega)).mono fun v V11 _ ⟨r, hv, hr⟩ => ⟨r, hv, r, rfl, hr⟩
theorem l0l {V : View} {x : WhV} {a : Int} (h : I00 V x a) : x.mag.len = 0 ↔ a = 0 := by
 have := h.2.len_zero
 rw [this]; omega
theorem b0g {V : View} {x : NumV} {z : Cq} (hx : QAt V x z) : a00 prog s0m #[x.val] V fun v _ => v = .int .i64 (cmpR z.re 0) := by
 have h0 := l0l hx.re
 have h1 := hx.re.1
 have hD := z.D_pos
 have hc : cmpR z.re 0 = cmpZ z.A 0 := by
  have := G0r (A := z.A) (A' := 0) (D := z.D) (D' := 1) hD (by omega)
  rw [← z.canon.rep.re] at this
  rw [show ((0 : Int) : Rat) / ((1 : Nat) : Rat) = 0 by rw [Rat.div_def]; simp] at this
  rw [← this]; simp
 refine w0k x V _ ⟨fun h => ?_, fun h => ⟨fun hp => ?_, fun hp => ?_⟩⟩
 · have : z.A < 0 := by rw [h] at h1; simpa using h1.symm
   rw [hc, J0a this]
 · have hn : ¬ z.A < 0 := by rw [h] at h1; simpa using h1.symm
   have : x.re.mag.len ≠ 0 := by intro e; rw [e] at hp; simp at hp
   have : z.A ≠ 0 := fun e => this (h0.2 e)
   rw [hc, C0e (by omega)]
 · have : x.re.mag.len = 0 := by have : ¬ (0 : Int) < x.re.mag.len := (by simpa using hp); omega
   rw [hc, D0i (h0.1 this)]

theorem a05 (x : Nat) : f02 prog d0b #[.float .f64 x] (.int .u64 (x : Int)) := fun w => by kernel_rfl
theorem F03 (x : Nat) : f02 prog M02 #[.int .u64 (x : Int)] (.float .f64 x) := fun w => by kernel_rfl
theorem H04 {V : View} {x : Nat} (h : x < 2 ^ 64) : a00 prog X0j #[.float .f64 x] V fun v _ => v = .bool (decide (¬ okW x)) := by
 refine k0i x V _ ?_
 by_cases c : okW x
 · rw [D06 c c, decide_eq_false (fun z => z c)]
   have : compare (key x) (key x) = .eq := by
    show compareOfLessAndEq _ _ = _
    unfold compareOfLessAndEq; rw [if_neg (by omega), if_pos rfl]
   rw [this]; rfl
 · have : infR < x % 2 ^ 63 := by unfold okW at c; omega
   rw [K0a this, decide_eq_true c]; rfl
theorem t0c : okW 9218868437227405311 ∧ key 9218868437227405311 = (infR : Int) - 1 := by decide
theorem A0s {x : Nat} (h : okW x) : -(infR : Int) ≤ key x ∧ key x ≤ (infR : Int) := by
 obtain ⟨h1, h2⟩ := h
 unfold key infR at *; split <;> omega
theorem J0d {V : View} {x : Nat} (h : x < 2 ^ 64) : a00 prog D08 #[.float .f64 x, .int .i64 1] V fun v _ => v = .bool (decide (okW x ∧ key x = (infR : Int))) := by
 refine W07 x 1 V _ ⟨fun h => absurd h (by simp), fun _ => ⟨fun h => absurd h (by simp), fun _ => ?_⟩⟩
 by_cases c : okW x
 · have := A0s c
   rw [m0a c t0c.1, t0c.2]
   congr 2; apply propext; constructor
   · intro z; exact ⟨c, by omega⟩
   · intro z; omega
 · have : infR < x % 2 ^ 63 := by unfold okW at c; omega
   rw [K0a this, decide_eq_false (fun z => c z.1)]; rfl
theorem H09 {V : View} {x : Nat} (h : x < 2 ^ 64) : a00 prog D08 #[.float .f64 x, .int .i64 (-1)] V fun v _ => v = .bool (decide (okW x ∧ key x = -(infR : Int))) := by
 refine W07 x (-1) V _ ⟨fun h => absurd h (by simp), fun _ => ⟨fun _ => ?_, fun h => absurd h (by simp)⟩⟩
 by_cases c : okW x
 · have := A0s c
   obtain ⟨n1, n2⟩ := Q08 c
   rw [m0a n1 t0c.1, t0c.2, n2]
   congr 2; apply propext; constructor
   · intro z; exact ⟨c, by omega⟩
   · intro z; omega
 · have h2 : infR < x % 2 ^ 63 := by unfold okW at c; omega
   have h3 : infR < (Op.negFloat .f64 x) % 2 ^ 63 := by rw [Z04 h]; split <;> omega
   rw [K0a h3, decide_eq_false (fun z => c z.1)]; rfl
theorem a09 {V : View} : a00 prog u07 #[.int .i64 1] V fun v _ => v = .float .f64 infR :=
 w0e 1 V _ ⟨fun _ => ⟨infR, F03 infR, rfl⟩, fun h => absurd h (by simp)⟩
theorem m0o {V : View} : a00 prog u07 #[.int .i64 (-1)] V fun v _ => v = .float .f64 18442240474082181120 :=
 w0e (-1) V _ ⟨fun h => absurd h (by simp), fun _ => ⟨18442240474082181120, F03 18442240474082181120, rfl⟩⟩
theorem B0s {x : Nat} (hx : x < 18446744073709551616) : (BitVec.ofInt 64 (x : Int)).toNat = x := by
 rw [BitVec.toNat_ofInt]; omega
theorem u0c {x : Nat} (hx : x < 2 ^ 64) : (BitVec.ofInt u64.bits (x : Int)).toNat = x := B0s (by omega)
theorem b03 {y : Nat} (hy : y < 2 ^ 64) : u64.wrap (y : Int) = (y : Int) := u64w (by omega) (by omega)
theorem C0s {x m : Nat} (hx : x < 2 ^ 64) (hm : m < 2 ^ 64) : u64.wrap (BitVec.toNat ((BitVec.ofInt u64.bits (x : Int)) &&& ~~~(BitVec.ofInt u64.bits (m : Int)))) = ((x &&& (2 ^ 64 - 1 - m) : Nat) : Int) := by
 have h2 : x &&& (2 ^ 64 - 1 - m) ≤ x := Nat.and_le_left
 have e3 : (~~~(BitVec.ofInt u64.bits (m : Int))).toNat = 2 ^ 64 - 1 - m := by
  rw [BitVec.toNat_not, u0c hm]; rfl
 rw [BitVec.toNat_and, u0c hx, e3]
 exact b03 (by omega)
theorem Y0g {x m : Nat} (hx : x < 2 ^ 64) (hm : m < 2 ^ 64) : u64.wrap (BitVec.toNat ((BitVec.ofInt u64.bits (x : Int)) ||| (BitVec.ofInt u64.bits (m : Int)))) = ((x ||| m : Nat) : Int) := by
 rw [BitVec.toNat_or, u0c hx, u0c hm]
 exact b03 (Nat.or_lt_two_pow hx hm)
theorem n0o {V : View} {x : Nat} (h : x < 2 ^ 64) : a00 prog t0p #[.float .f64 x] V fun v _ => v = .float .f64 (x % 2 ^ 63) := by
 refine L0m x V _ ⟨x, a05 x, x % 2 ^ 63, ?_, rfl⟩
 have e := C0s (x := x) (m := 2 ^ 63) h (by omega)
 have e2 : x &&& (2 ^ 64 - 1 - 2 ^ 63) = x % 2 ^ 63 := Nat.and_two_pow_sub_one_eq_mod x 63
 rw [e2] at e
 have e3 : (((2 ^ 63 : Nat) : Int)) = 9223372036854775808 := by decide
 rw [e3] at e
 rw [e]; exact F03 _
theorem m0l {V : View} {x : Nat} (h : okW x) : a00 prog D08 #[.float .f64 x, .int .i64 0] V fun v _ => v = .bool (decide (x % 2 ^ 63 = infR)) := by
 refine W07 x 0 V _ ⟨fun _ => (n0o h.1).mono fun v V1 _ hv => ⟨_, hv, ?_⟩, fun h => absurd h (by simp)⟩
 have h2 := h.2
 have ok : okW (x % 2 ^ 63) := ⟨by omega, by omega⟩
 rw [m0a ok t0c.1, t0c.2]
 have : key (x % 2 ^ 63) = ((x % 2 ^ 63 : Nat) : Int) := by unfold key; rw [if_pos (by omega)]
 rw [this]
 congr 2; apply propext; omega
theorem b09 {w : Nat} (h : w < 2 ^ 63) : key w = (w : Int) := by unfold key; rw [if_pos h]
theorem D0s {x : Nat} (hx : x < 2 ^ 63) : x &&& (2 ^ 64 - 1 - 9218868437227405312) = x % 2 ^ 52 := by
 have hM : 2 ^ 64 - 1 - 9218868437227405312 = 2 ^ 52 * 2 ^ 11 + (2 ^ 52 - 1) := by decide
 rw [hM]
 have h1 : (x &&& (2 ^ 52 * 2 ^ 11 + (2 ^ 52 - 1))) % 2 ^ 52 = x % 2 ^ 52 := by
  rw [Nat.and_mod_two_pow, Nat.mul_add_mod, Nat.mod_eq_of_lt (by omega : 2 ^ 52 - 1 < 2 ^ 52), Nat.and_two_pow_sub_one_eq_mod, Nat.mod_mod]
 have h2 : (x &&& (2 ^ 52 * 2 ^ 11 + (2 ^ 52 - 1))) / 2 ^ 52 = 0 := by
  rw [Nat.and_div_two_pow]
  have e : (2 ^ 52 * 2 ^ 11 + (2 ^ 52 - 1)) / 2 ^ 52 = 2 ^ 11 := by decide
  rw [e]
  apply Nat.eq_of_testBit_eq
  intro i
  rw [Nat.testBit_and, Nat.testBit_two_pow, Nat.zero_testBit]
  by_cases c : 11 = i
  · subst c
    rw [Nat.testBit_lt_two_pow (by omega : x / 2 ^ 52 < 2 ^ 11)]; rfl
  · rw [decide_eq_false c, Bool.and_false]
 omega
theorem E0s {x m e k : Nat} (hw : x = e * 2 ^ 52 + m) (he : e ≤ 2045) (h1 : 2 ^ 52 ≤ m) (h2 : m < 2 ^ 53) (hk : k ≤ 2045) :
 u64.wrap (BitVec.toNat ((BitVec.ofInt u64.bits (u64.wrap (BitVec.toNat ((BitVec.ofInt u64.bits (x : Int)) &&& ~~~(BitVec.ofInt u64.bits 9218868437227405312))))) ||| (BitVec.ofInt u64.bits (u64.wrap ((u64.wrap ((k + 1 : Nat) : Int)) * 2 ^ (min (Int.toNat 52) (u64.bits))))))) = ((k * 2 ^ 52 + m : Nat) : Int) := by
 have hx : x < 2 ^ 63 := by omega
 have a := C0s (x := x) (m := 9218868437227405312) (by omega) (by omega)
 rw [D0s hx] at a
 have am : x % 2 ^ 52 = m - 2 ^ 52 := by omega
 rw [am] at a
 have a9 : (((9218868437227405312 : Nat)) : Int) = 9218868437227405312 := rfl
 rw [a9] at a
 rw [a]
 have hp : (2 : Int) ^ (min (Int.toNat 52) u64.bits) = ((2 ^ 52 : Nat) : Int) := by decide
 have e3 : u64.wrap (u64.wrap ((k + 1 : Nat) : Int) * ((2 ^ 52 : Nat) : Int)) = (((k + 1) * 2 ^ 52 : Nat) : Int) := by
  rw [b03 (y := k + 1) (by omega), ← Int.natCast_mul, b03 (by omega)]
 rw [hp, e3, Y0g (by omega) (by omega)]
 congr 1
 have hor := Nat.two_pow_add_eq_or_of_lt (i := 52) (b := m - 2 ^ 52) (by omega) (k + 1)
 rw [Nat.or_comm, Nat.mul_comm (k + 1), ← hor]; omega
theorem E0w {n m e t k b c d : Nat} (hv : m * 2 ^ e = n * 2 ^ c) (h1 : k + d = e + t) (h2 : 52 + c = b + d) : 2 ^ 52 * m * 2 ^ k = n * 2 ^ t * 2 ^ b := by
 refine Nat.eq_of_mul_eq_mul_right (Nat.pow_pos (by omega) : 0 < 2 ^ d) ?_
 have e1 : 2 ^ 52 * m * 2 ^ k * 2 ^ d = 2 ^ 52 * (m * 2 ^ e) * 2 ^ t := by
  rw [Nat.mul_assoc (2 ^ 52 * m), ← Nat.pow_add, h1, Nat.pow_add]; ac_rfl
 have e2 : n * 2 ^ t * 2 ^ b * 2 ^ d = n * 2 ^ t * (2 ^ 52 * 2 ^ c) := by
  rw [Nat.mul_assoc (n * 2 ^ t), ← Nat.pow_add, ← Nat.pow_add, h2]
 rw [e1, e2, hv]; ac_rfl
theorem b0u : Ieee.double.read 4607182418800017408 = .number false (2 ^ 52) (-52) := by decide +kernel
theorem F0s : Ieee.double.read 4368491638549381120 = .number false (2 ^ 52) (-105) := by decide +kernel
theorem Z0g {V : View} {n r : Nat} {s : Int} (h0 : n ≠ 0) (hn : n ≤ 2 ^ 53) (s0 : -1074 ≤ s) (s1 : s ≤ 2 ^ 40) (hr : r < infR) (h : rm r = n * 2 ^ (s + 1074).toNat) :
 a00 prog E0c #[.float .f64 (FloatKind.f64.nearest (n : Int)), .int .i64 s] V fun v _ => v = .float .f64 r := by
 obtain ⟨e, m, hw, m1, m2, hv, e0, e1⟩ := Z0k h0 hn
 generalize FloatKind.f64.nearest (n : Int) = x at hw
 have hx63 : x < 2 ^ 63 := by omega
 have hmod : x % 2 ^ 63 = x := Nat.mod_eq_of_lt hx63
 have hxi : x < infR := by unfold infR; omega
 have hok : okW x := ⟨by omega, by omega⟩
 have hkey : key x = (x : Int) := b09 hx63
 have hdiv : x / 2 ^ 52 = e + 1 := by omega
 have hmd : x % 2 ^ 52 = m - 2 ^ 52 := by omega
 -- what is known of the size
 have hnl := t0w h hr h0
 have hlm : n.log2 + 52 = e - 1022 + 52 := by
  have a1 := ((E0d (n := m) (k := e) (by omega)).symm.trans (congrArg Nat.log2 hv)).trans (E0d (n := n) (k := 1074) h0)
  have a2 : m.log2 = 52 := (Nat.log2_eq_iff (by omega)).2 ⟨m1, m2⟩
  omega
 have hs : s ≤ 1023 := by omega
 refine n0b x s V _ ⟨fun h => absurd h (by simp), fun _ => ?_⟩
 refine a00.mono (m0b x s V (fun v _ => v = .float .f64 r) ⟨fun hz => ?_, fun _ => ?_⟩) (fun v V1 _ hv => ⟨r, hv, rfl⟩)
 · exfalso
   rw [l08 hok (by decide), hkey] at hz
   have : key 0 = 0 := by decide
   rw [this] at hz
   simp only [decide_eq_true_eq] at hz
   omega
 refine (m0l hok).mono fun v V1 l1 hv1 => ⟨_, hv1, fun hc => ?_, fun _ => ?_⟩
 · exfalso; simp only [decide_eq_true_eq] at hc; omega
 refine (H04 (by omega : x < 2 ^ 64)).mono fun v V2 l2 hv2 => ⟨_, hv2, fun hc => ?_, fun _ => ?_⟩
 · exfalso; simp only [decide_eq_true_eq] at hc; exact hc hok
 have hnorm : a00 prog l0d #[.float .f64 x] V2 fun v _ => v = .tuple #[.float .f64 x, .int .i64 0] := by
  refine i0c x V2 _ ((n0o (by omega : x < 2 ^ 64)).mono fun v V3 l3 hv3 => ⟨_, hv3, fun hc => ?_, fun _ => rfl⟩)
  exfalso
  rw [hmod, N0r hok (by decide), hkey] at hc
  have : key 4503599627370496 = 4503599627370496 := by decide
  rw [this] at hc
  simp only [decide_eq_true_eq] at hc
  omega
 refine hnorm.mono fun v V3 l3 hv3 => ⟨x, 0, hv3, x, a05 x, ?_⟩
 have hE : i64.wrap (i64.wrap (s + 0) + i64.wrap (i64.wrap (BitVec.toNat ((BitVec.ofInt i64.bits (i64.wrap (Int.fdiv (x : Int) (2 ^ (min (Int.toNat 52) u64.bits))))) &&& (BitVec.ofInt i64.bits 2047))) - 1023)) = s + (e : Int) - 1022 := by
  have hp : (2 : Int) ^ (min (Int.toNat 52) u64.bits) = ((2 ^ 52 : Nat) : Int) := by decide
  have hd : Int.fdiv (x : Int) ((2 ^ 52 : Nat) : Int) = ((e + 1 : Nat) : Int) := by
   rw [Int.fdiv_eq_ediv_of_nonneg _ (by omega), ← Int.natCast_ediv, hdiv]
  rw [hp, hd, i64w (n := ((e + 1 : Nat) : Int)) (by omega) (by omega), BitVec.toNat_and]
  have b1 : (BitVec.ofInt i64.bits ((e + 1 : Nat) : Int)).toNat = e + 1 := B0s (by omega)
  have b2 : (BitVec.ofInt i64.bits 2047).toNat = 2 ^ 11 - 1 := by decide
  rw [b1, b2, Nat.and_two_pow_sub_one_eq_mod, Nat.mod_eq_of_lt (by omega), i64w (n := ((e + 1 : Nat) : Int)) (by omega) (by omega), i64w (n := ((e + 1 : Nat) : Int) - 1023) (by omega) (by omega), i64w (n := s + 0) (by omega) (by omega), i64w (by omega) (by omega)]
  omega
 rw [hE]
 refine ⟨fun hc => ?_, fun _ => ⟨fun hc => ?_, fun _ => ⟨fun hc => ?_, fun hc => ?_⟩⟩⟩
 · exfalso; simp only [decide_eq_true_eq] at hc; omega
 · exfalso; simp only [decide_eq_true_eq] at hc; omega
 · simp only [decide_eq_true_eq] at hc
   obtain ⟨k, hk⟩ : ∃ k : Nat, (k : Int) = s + e + 53 := ⟨(s + e + 53).toNat, by omega⟩
   have hk5 : k ≤ 2045 := by omega
   have w1 : i64.wrap (i64.wrap (s + (e : Int) - 1022 + 53) + 1023) = ((k + 1 : Nat) : Int) := by
    rw [i64w (n := s + (e : Int) - 1022 + 53) (by omega) (by omega), i64w (by omega) (by omega)]; omega
   rw [w1, E0s hw (by omega) m1 m2 hk5]
   refine ⟨_, F03 _, r, Y0k F0s (X0k hk5 m1 m2) hr (by omega) (by omega) (a := k) (b := 105) (by omega) ?_, rfl⟩
   rw [h]
   exact E0w (d := 1021) hv (by omega) (by omega)
 · simp only [decide_eq_false_iff_not] at hc
   obtain ⟨k, hk⟩ : ∃ k : Nat, (k : Int) = s + e := ⟨(s + e).toNat, by omega⟩
   have hk5 : k ≤ 2045 := by omega
   have w1 : i64.wrap (s + (e : Int) - 1022 + 1023) = ((k + 1 : Nat) : Int) := by
    rw [i64w (by omega) (by omega)]; omega
   rw [w1, E0s hw (by omega) m1 m2 hk5]
   refine ⟨_, F03 _, r, Y0k b0u (X0k hk5 m1 m2) hr (by omega) (by omega) (a := k) (b := 52) (by omega) ?_, rfl⟩
   rw [h]
   exact E0w (d := 1074) hv (by omega) (by omega)
theorem p0q {V : View} {s : Int} : a00 prog E0c #[.float .f64 (FloatKind.f64.nearest 0), .int .i64 s] V fun v _ => v = .float .f64 0 := by
 rw [w0d]
 refine n0b 0 s V _ ⟨fun h => absurd h (by simp), fun _ => ?_⟩
 refine a00.mono (m0b 0 s V (fun v _ => v = .float .f64 0) ⟨fun _ => rfl, fun hz => ?_⟩) (fun v V1 _ hv => ⟨0, hv, rfl⟩)
 exfalso; revert hz; decide

structure BqAt (V : View) (b : BdV) (e : Eb) : Prop where
 inf : b.inf = e.inf
 num : QAt V b.x e.num
 ok : e.ok
theorem BqAt.le {V V' : View} {b : BdV} {e : Eb} (hle : V.le V') (h : BqAt V b e) : BqAt V' b e := ⟨h.inf, h.num.le hle, h.ok⟩
theorem y04 (a b : Rat) : (⟨a, 0⟩ : Cq) * ⟨b, 0⟩ = ⟨a * b, 0⟩ := Cq.ext' (by rw [J06]; grind) (by rw [K06]; grind)
theorem I09 (a b : Rat) : (⟨a, 0⟩ : Cq) + ⟨b, 0⟩ = ⟨a + b, 0⟩ := Cq.ext' (by rw [g09]) (by rw [i09]; grind)
theorem o0o (a b : Rat) : (⟨a, 0⟩ : Cq) - ⟨b, 0⟩ = ⟨a - b, 0⟩ := Cq.ext' (by rw [j0f]) (by rw [k0f]; grind)
theorem Z0i (a : Rat) : -(⟨a, 0⟩ : Cq) = ⟨-a, 0⟩ := Cq.ext' (by rw [U0b]) (by rw [W0b]; grind)
theorem Z0c {V : View} {x : NumV} {q : Rat} (hx : QAt V x ⟨q, 0⟩) : a00 prog d0r #[x.val] V fun v V' => ∃ b : BdV, v = b.val ∧ BqAt V' b ⟨0, q⟩ :=
 M0p x V _ ⟨_, rfl, rfl, hx, .inl rfl⟩
theorem o0a {V : View} {a b : BdV} {e f : Eb} (ha : BqAt V a e) (hb : BqAt V b f) (hz : e.num.sz ≤ 2 ^ 40) (hw : f.num.sz ≤ 2 ^ 40) :
 a00 prog a0m #[a.val, b.val] V fun v V' => ∃ c : BdV, v = c.val ∧ BqAt V' c (e.add f) := by
 refine s0k a b V _ ⟨fun h => ?_, fun h => ⟨fun g => ?_, fun g => ?_⟩⟩
 · have h : e.inf ≠ 0 := by rw [← ha.inf]; simpa using h
   exact ⟨a, rfl, by unfold Eb.add; rw [if_pos h]; exact ha⟩
 · have h : ¬ e.inf ≠ 0 := by rw [← ha.inf]; simpa using h
   have g : f.inf ≠ 0 := by rw [← hb.inf]; simpa using g
   exact ⟨b, rfl, by unfold Eb.add; rw [if_neg h, if_pos g]; exact hb⟩
 · have h : ¬ e.inf ≠ 0 := by rw [← ha.inf]; simpa using h
   have g : ¬ f.inf ≠ 0 := by rw [← hb.inf]; simpa using g
   refine (a04 ha.num hb.num hz hw).mono fun v V1 _ ⟨r, hv, hr⟩ => ⟨r, hv, ?_⟩
   have e1 : e.num + f.num = ⟨e.x + f.x, 0⟩ := I09 e.x f.x
   rw [e1] at hr
   refine (Z0c hr).mono fun v V2 _ ⟨c, hv, hc⟩ => ⟨c, hv, c, rfl, ?_⟩
   unfold Eb.add; rw [if_neg h, if_neg g]; exact hc
theorem c09 {V : View} {a : BdV} {e : Eb} (ha : BqAt V a e) : a00 prog P0j #[a.val] V fun v V' => ∃ c : BdV, v = c.val ∧ BqAt V' c e.neg := by
 refine e0i a V _ ((e08 ha.num).mono fun v V1 _ ⟨r, hv, hr⟩ => ⟨r, hv, _, rfl, ?_⟩)
 have r0 := D04 ha.ok
 have e1 : -e.num = e.neg.num := Z0i e.x
 rw [e1] at hr
 refine ⟨?_, hr, Eb.neg_ok ha.ok⟩
 show i64.wrap (0 - a.inf) = -e.inf
 rw [ha.inf, i64w (by omega) (by omega)]; omega
theorem BqAt.zero {V : View} {r : NumV} (h : QAt V r ⟨((0 : Int) : Rat), 0⟩) {i : Int} (hi : (⟨i, 0⟩ : Eb).ok) : BqAt V (BdV.mk i r) ⟨i, 0⟩ := ⟨rfl, by rw [Rat.intCast_zero] at h; exact h, hi⟩

theorem O0e {V : View} {x : Nat} (h : x < 2 ^ 64) : a00 prog Q0j #[.float .f64 x] V fun v _ => v = .bool (decide (x % 2 ^ 63 < infR)) := by
 refine m0i x V _ ((H04 h).mono fun v V1 _ hv => ⟨_, hv, fun hc => ?_, fun hc => ?_⟩)
 · have hok : okW x := by simpa using hc
   refine (m0l hok).mono fun v V2 _ hv => ⟨_, hv, ?_⟩
   have := hok.2
   by_cases c : x % 2 ^ 63 = infR
   · rw [decide_eq_true c, decide_eq_false (by omega)]; rfl
   · rw [decide_eq_false c, decide_eq_true (by omega)]; rfl
 · have hok : ¬ okW x := by simpa using hc
   have : ¬ x % 2 ^ 63 < infR := fun c => hok ⟨h, by omega⟩
   rw [decide_eq_false this]
def fld (x : Nat) : Nat := x / 2 ^ 52 % 2048
def mant (x : Nat) : Nat := if fld x = 0 then x % 2 ^ 52 else x % 2 ^ 52 + 2 ^ 52
def up1 (x : Nat) : Nat := if fld x = 0 then 1 else fld x
def sgI (x : Nat) (n : Nat) : Int := if 2 ^ 63 ≤ x then -(n : Int) else n
theorem P0e (x : Nat) : mant x < 2 ^ 53 := by unfold mant; split <;> omega
theorem B0v (x : Nat) : rm (x % 2 ^ 63) = mant x * 2 ^ (up1 x - 1) := by
 have hf : x % 2 ^ 63 / 2 ^ 52 = fld x := by unfold fld; omega
 have hm : x % 2 ^ 63 % 2 ^ 52 = x % 2 ^ 52 := by omega
 unfold rm mant up1
 rw [hf, hm]
 by_cases c : fld x = 0
 · rw [if_pos (by omega), if_pos c, if_pos c]; simp; omega
 · rw [if_neg (by omega), if_neg c, if_neg c, Nat.add_comm]
theorem F0w {x : Nat} (h : x < 2 ^ 64) : kz (key x) = sgI x (rm (x % 2 ^ 63)) := by
 unfold kz sgI
 rw [F0i h]
 by_cases c : 2 ^ 63 ≤ x
 · rw [if_pos c]
   by_cases z : key x < 0
   · rw [if_pos z]
   · rw [if_neg z]
     have : x % 2 ^ 63 = 0 := by unfold key at z; split at z <;> omega
     rw [this, O08]; rfl
 · rw [if_neg c, if_neg (by unfold key; rw [if_pos (by omega)]; omega)]
theorem J09 {x m : Nat} (hx : x < 2 ^ 64) (hm : m < 2 ^ 64) : u64.wrap (BitVec.toNat ((BitVec.ofInt u64.bits (x : Int)) &&& (BitVec.ofInt u64.bits (m : Int)))) = ((x &&& m : Nat) : Int) := by
 have h2 : x &&& m ≤ x := Nat.and_le_left
 rw [BitVec.toNat_and, u0c hx, u0c hm]
 exact b03 (by omega)
theorem J0b {x k : Nat} : Int.fdiv (x : Int) ((2 ^ k : Nat) : Int) = ((x / 2 ^ k : Nat) : Int) := by
 rw [Int.fdiv_eq_ediv_of_nonneg _ (Int.natCast_nonneg _), ← Int.natCast_ediv]
theorem w0c (x : Nat) : 1 ≤ up1 x ∧ up1 x ≤ 2047 := by
 have : fld x < 2048 := by unfold fld; omega
 unfold up1
 by_cases c : fld x = 0
 · rw [if_pos c]; omega
 · rw [if_neg c]; omega
theorem H0u (x : Nat) : (if (1 : Int) > (fld x : Int) then (1 : Int) else (fld x : Int)) = (up1 x : Int) := by
 unfold up1
 by_cases c : fld x = 0
 · rw [if_pos (by omega), if_pos c]; rfl
 · rw [if_neg (by omega), if_neg c]
def fq (x : Nat) : Rat := (kz (key x) : Rat) / ((2 ^ 1074 : Nat) : Rat)
theorem a0h {V : View} {x : Nat} (h : finW x) : a00 prog c0m #[.float .f64 x] V fun v V' => ∃ r : WhV, v = .tuple #[r.val, .int .i64 ((up1 x : Int) - 1075)] ∧ I00 V' r (sgI x (mant x)) := by
 have h64 := h.1
 have hfl : fld x < 2048 := by unfold fld; omega
 have hp52 : (2 : Int) ^ (min (Int.toNat 52) u64.bits) = ((2 ^ 52 : Nat) : Int) := by decide
 have hp63 : (2 : Int) ^ (min (Int.toNat 63) u64.bits) = ((2 ^ 63 : Nat) : Int) := by decide
 have e1 : i64.wrap (u64.wrap (BitVec.toNat ((BitVec.ofInt u64.bits (Int.fdiv (x : Int) (2 ^ (min (Int.toNat 52) (u64.bits))))) &&& (BitVec.ofInt u64.bits 2047)))) = (fld x : Int) := by
  have := J09 (x := x / 2 ^ 52) (m := 2047) (by omega) (by omega)
  have e : x / 2 ^ 52 &&& 2047 = fld x := Nat.and_two_pow_sub_one_eq_mod (x / 2 ^ 52) 11
  rw [e] at this
  rw [hp52, J0b]
  rw [show (((2047 : Nat)) : Int) = 2047 from rfl] at this
  rw [this, i64w (by omega) (by omega)]
 have e2 : u64.wrap (BitVec.toNat ((BitVec.ofInt u64.bits (x : Int)) &&& (BitVec.ofInt u64.bits 4503599627370495))) = ((x % 2 ^ 52 : Nat) : Int) := by
  have := J09 (x := x) (m := 4503599627370495) (by omega) (by omega)
  have e : x &&& 4503599627370495 = x % 2 ^ 52 := Nat.and_two_pow_sub_one_eq_mod x 52
  rw [e] at this
  exact this
 have e3 : ((Int.fdiv (x : Int) (2 ^ (min (Int.toNat 63) (u64.bits))) : Int) == 1) = decide (2 ^ 63 ≤ x) := by
  rw [hp63, J0b]
  by_cases c : 2 ^ 63 ≤ x
  · have : x / 2 ^ 63 = 1 := by omega
    rw [this, decide_eq_true c]; rfl
  · have : x / 2 ^ 63 = 0 := by omega
    rw [this, decide_eq_false c]; rfl
 refine A0k x V _ ⟨x, a05 x, ?_⟩
 rw [e1, e2, e3]
 have hw : ∀ {V1 : View} {s : Sl} {n : Nat}, e00 V1 s n → n = mant x → a00 prog O07 #[.bool (decide (2 ^ 63 ≤ x)), s.v] V1 fun v V' => ∃ r : WhV, v = r.val ∧ I00 V' r (sgI x (mant x)) := by
  intro V1 s n hs hn
  refine (P01 (decide (2 ^ 63 ≤ x)) hs).mono fun v V2 _ ⟨r, hv, hr⟩ => ⟨r, hv, ?_⟩
  subst hn
  unfold sgI
  by_cases c : 2 ^ 63 ≤ x
  · rw [decide_eq_true c] at hr; rw [if_pos c]; simpa using hr
  · rw [decide_eq_false c] at hr; rw [if_neg c]; simpa using hr
 refine ⟨fun hc => ?_, fun hc => ?_⟩
 · simp only [decide_eq_true_eq] at hc
   have e4 : u64.wrap (BitVec.toNat ((BitVec.ofInt u64.bits ((x % 2 ^ 52 : Nat) : Int)) ||| (BitVec.ofInt u64.bits 4503599627370496))) = ((mant x : Nat) : Int) := by
    have := Y0g (x := x % 2 ^ 52) (m := 4503599627370496) (by omega) (by omega)
    have hor := Nat.two_pow_add_eq_or_of_lt (i := 52) (b := x % 2 ^ 52) (by omega) 1
    have e : x % 2 ^ 52 ||| 4503599627370496 = mant x := by
     rw [Nat.or_comm]
     have h1 : 2 ^ 52 * 1 = 4503599627370496 := by decide
     rw [h1] at hor
     rw [← hor]; unfold mant; rw [if_neg (by omega)]; omega
    rw [e] at this
    exact this
   rw [e4]
   have := P0e x
   refine (q04 (n := ((mant x : Nat) : Int)) (by omega) (by omega)).mono fun v V1 _ ⟨s, hv, hs⟩ => ⟨s, hv, ?_⟩
   refine (hw hs (by omega)).mono fun v V2 _ ⟨r, hv, hr⟩ => ⟨r, hv, r, ?_, hr⟩
   have hu := w0c x
   rw [H0u x, i64w (by omega) (by omega)]
 · simp only [decide_eq_false_iff_not] at hc
   have hf0 : fld x = 0 := by omega
   have em : x % 2 ^ 52 = mant x := by unfold mant; rw [if_pos hf0]
   rw [em]
   have := P0e x
   refine (q04 (n := ((mant x : Nat) : Int)) (by omega) (by omega)).mono fun v V1 _ ⟨s, hv, hs⟩ => ⟨s, hv, ?_⟩
   refine (hw hs (by omega)).mono fun v V2 _ ⟨r, hv, hr⟩ => ⟨r, hv, r, ?_, hr⟩
   have hu := w0c x
   rw [H0u x, i64w (by omega) (by omega)]
theorem Z01 (k : Nat) : bl (2 ^ k) ≤ k + 1 := I02 (by rw [Nat.pow_succ]; have : 0 < 2 ^ k := Nat.pow_pos (by omega); omega)
theorem C0v (x k : Nat) : bl (mant x * 2 ^ k) ≤ 54 + k := by
 have h1 := L08 (mant x) (2 ^ k)
 have h2 : bl (mant x) ≤ 53 := I02 (P0e x)
 have h3 := Z01 k
 omega
theorem G0s (x a b : Nat) : sgI x a * (b : Int) = sgI x (a * b) := by
 unfold sgI; split
 · rw [Int.neg_mul, Int.natCast_mul]
 · rw [Int.natCast_mul]
theorem Q0e (x a : Nat) : (sgI x a).natAbs = a := by unfold sgI; split <;> omega
theorem H0s : (2 ^ 1074 : Nat) ≠ 0 := by
 exact Nat.pos_iff_ne_zero.1 (Nat.pow_pos (a := 2) (n := 1074) (by omega))
theorem a0j {x k : Nat} {n : Nat} (h : x < 2 ^ 64) (hn : (n : Int) = (up1 x : Int) - 1075 + k) : fq x = (sgI x (mant x * 2 ^ n) : Rat) / ((2 ^ k : Nat) : Rat) := by
 have hk : (2 ^ k : Nat) ≠ 0 := by
  have : 0 < 2 ^ k := Nat.pow_pos (by omega)
  omega
 unfold fq
 rw [u01 H0s hk, F0w h, B0v, G0s, G0s]
 have := w0c x
 have e : up1 x - 1 + k = n + 1074 := by omega
 rw [Nat.mul_assoc, Nat.mul_assoc, ← Nat.pow_add 2 (up1 x - 1) k, ← Nat.pow_add 2 n 1074, e]
theorem X0w {x : Nat} {z : Rat} {k n j m : Nat} {y : Nat} (h : x < 2 ^ 64) (hy : y < 2 ^ 64) (hn : (n : Int) = (up1 x : Int) - 1075 + k) (hm : (m : Int) = (up1 y : Int) - 1075 + k) : Rep ⟨fq x, fq y⟩ (sgI x (mant x * 2 ^ n)) (sgI y (mant y * 2 ^ m)) (2 ^ k) :=
 ⟨by have : 0 < 2 ^ k := Nat.pow_pos (by omega)
     omega, a0j h hn, a0j hy hm⟩
theorem b0h {V : View} {b : Nat} (hb : V b = some #[.int .u32 1]) : e00 V ⟨some ⟨b, 0, none⟩, 1, 1⟩ 1 := by
 have : dig 1 = [1] := by rw [A03 (by omega)]; simp [w02]
 unfold e00; rw [this]
 exact A00.of_block (by rw [hb]; rfl) rfl (Nat.le_refl _) (by intro d hd; simp at hd; omega)
theorem a0d : wn 1 ≤ 2 ^ 43 := wn64 (by omega)
theorem n0l {V : View} {c : CxV} (h1 : finW c.re) (h2 : finW c.im) :
 a00 prog z0h #[.complex .f64 c.re c.im] V fun v V' => ∃ r : NumV, v = .tuple #[r.val, .int .i64 0] ∧ S01 V' r ⟨fq c.re, fq c.im⟩ := by
 have f1 : decide (c.re % 2 ^ 63 < infR) = true := decide_eq_true h1.2
 have f2 : decide (c.im % 2 ^ 63 < infR) = true := decide_eq_true h2.2
 have u1 := w0c c.re
 have u2 := w0c c.im
 refine S0f c V _ ((O0e h1.1).mono fun v V1 l1 hv => ⟨_, hv, fun hc => ?_, fun _ => ?_⟩)
 · rw [f1] at hc; simp at hc
 refine (O0e h2.1).mono fun v V2 l2 hv => ⟨_, hv, fun hc => ?_, fun _ => ?_⟩
 · rw [f2] at hc; simp at hc
 refine (a0h h1).mono fun v V3 l3 ⟨a, hv, ha⟩ => ⟨a, _, hv, ?_⟩
 refine (a0h h2).mono fun v V4 l4 ⟨b, hv, hb⟩ => ⟨b, _, hv, ?_⟩
 obtain ⟨k, hk, hk2⟩ : ∃ k : Nat, (if (i64.wrap (0 - ((up1 c.im : Int) - 1075)) : Int) > (if (i64.wrap (0 - ((up1 c.re : Int) - 1075)) : Int) > 0 then i64.wrap (0 - ((up1 c.re : Int) - 1075)) else 0) then i64.wrap (0 - ((up1 c.im : Int) - 1075)) else (if (i64.wrap (0 - ((up1 c.re : Int) - 1075)) : Int) > 0 then i64.wrap (0 - ((up1 c.re : Int) - 1075)) else 0)) = (k : Int) ∧ 1075 - (up1 c.re : Int) ≤ k ∧ 1075 - (up1 c.im : Int) ≤ k ∧ k ≤ 1074 := by
  rw [i64w (n := 0 - ((up1 c.im : Int) - 1075)) (by omega) (by omega), i64w (n := 0 - ((up1 c.re : Int) - 1075)) (by omega) (by omega)]
  by_cases g1 : 0 - ((up1 c.re : Int) - 1075) > 0
  · rw [if_pos g1]
    by_cases g2 : 0 - ((up1 c.im : Int) - 1075) > 0 - ((up1 c.re : Int) - 1075)
    · rw [if_pos g2]; exact ⟨(0 - ((up1 c.im : Int) - 1075)).toNat, by omega, by omega, by omega, by omega⟩
    · rw [if_neg g2]; exact ⟨(0 - ((up1 c.re : Int) - 1075)).toNat, by omega, by omega, by omega, by omega⟩
  · rw [if_neg g1]
    by_cases g2 : 0 - ((up1 c.im : Int) - 1075) > 0
    · rw [if_pos g2]; exact ⟨(0 - ((up1 c.im : Int) - 1075)).toNat, by omega, by omega, by omega, by omega⟩
    · rw [if_neg g2]; exact ⟨0, by omega, by omega, by omega, by omega⟩
 rw [hk]
 obtain ⟨n, hn⟩ : ∃ n : Nat, (n : Int) = (up1 c.re : Int) - 1075 + k := ⟨((up1 c.re : Int) - 1075 + k).toNat, by omega⟩
 obtain ⟨m, hm⟩ : ∃ m : Nat, (m : Int) = (up1 c.im : Int) - 1075 + k := ⟨((up1 c.im : Int) - 1075 + k).toNat, by omega⟩
 have w1 : i64.wrap ((up1 c.re : Int) - 1075 + k) = (n : Int) := by rw [i64w (by omega) (by omega), hn]
 have w2 : i64.wrap ((up1 c.im : Int) - 1075 + k) = (m : Int) := by rw [i64w (by omega) (by omega), hm]
 rw [w1, w2]
 have ma := ha.2
 have mb := hb.2
 rw [Q0e] at ma mb
 have wa : ∀ x, wn (mant x) ≤ 2 ^ 43 := fun x => wn64 (by have := P0e x; omega)
 have wb : ∀ x j, j ≤ 4000 → wn (mant x * 2 ^ j) ≤ 2 ^ 43 := fun x j hj => J04 (by have := C0v x j; omega)
 have neg : ∀ (y : Nat) (r : WhV), I00 V4 r (sgI y (mant y)) → mant y ≠ 0 → r.neg = decide (2 ^ 63 ≤ y) := by
  intro y r hr h0
  rw [hr.1]
  unfold sgI
  by_cases g : 2 ^ 63 ≤ y
  · rw [if_pos g, decide_eq_true g, decide_eq_true (by omega)]
  · rw [if_neg g, decide_eq_false g, decide_eq_false (by omega)]
 have whole : ∀ {W : View} {s : Sl} (y : Nat) (r : WhV) (j : Nat), I00 V4 r (sgI y (mant y)) → e00 W s (mant y * 2 ^ j) → a00 prog O07 #[.bool r.neg, s.v] W fun v V' => ∃ q : WhV, v = q.val ∧ I00 V' q (sgI y (mant y * 2 ^ j)) := by
  intro W s y r j hr hs
  refine (P01 r.neg hs).mono fun v V' _ ⟨q, hv, hq⟩ => ⟨q, hv, ?_⟩
  by_cases h0 : mant y = 0
  · rw [h0, Nat.zero_mul] at hq ⊢
    have e : (if r.neg = true then -((0 : Nat) : Int) else ((0 : Nat) : Int)) = 0 := by split <;> rfl
    rw [e] at hq
    have e2 : sgI y 0 = 0 := by unfold sgI; split <;> rfl
    rw [e2]; exact hq
  · rw [neg y r hr h0] at hq
    unfold sgI
    by_cases g : 2 ^ 63 ≤ y
    · rw [if_pos g]; rw [decide_eq_true g] at hq; simpa using hq
    · rw [if_neg g]; rw [decide_eq_false g] at hq; simpa using hq
 have ha4 := ha.le l4
 have wa44 : ∀ x, wn (mant x) ≤ 2 ^ 44 := fun x => Nat.le_trans (wa x) (by decide)
 refine (C02 (ma.le l4) (wa44 c.re) (by omega)).mono fun v V5 l5 ⟨s, hv, hs⟩ => ⟨s, hv, ?_⟩
 refine (whole c.re a n ha4 hs).mono fun v V6 l6 ⟨p, hv, hp⟩ => ⟨p, hv, ?_⟩
 refine (C02 (mb.le (View.le_trans l5 l6)) (wa44 c.im) (by omega)).mono fun v V7 l7 ⟨s', hv, hs'⟩ => ⟨s', hv, ?_⟩
 refine (whole c.im b m hb hs').mono fun v V8 l8 ⟨q, hv, hq⟩ => ⟨q, hv, fun b1 V9 l9 hf hb1 => ?_⟩
 have one : e00 V9 ⟨some ⟨b1, 0, none⟩, 1, 1⟩ 1 := b0h hb1
 refine (C02 one (Nat.le_trans a0d (by decide)) (by omega : k ≤ 2 ^ 44)).mono fun v V10 l10 ⟨s2, hv, hs2⟩ => ⟨s2, hv, ?_⟩
 rw [Nat.one_mul] at hs2
 have R := X0w (z := 0) (j := 0) h1.1 h2.1 hn hm
 refine (q03 (hp.le (View.le_trans l7 (View.le_trans l8 (View.le_trans l9 l10)))) (hq.le (View.le_trans l9 l10)) hs2 R (by rw [Q0e]; exact wb _ _ (by omega)) (by rw [Q0e]; exact wb _ _ (by omega)) (J04 (by have := Z01 k; omega))).mono fun v V11 l11 ⟨r, hv, hr⟩ => ⟨r, hv, r, rfl, hr⟩

theorem b0d {V : View} {s : Sl} {a : Nat} (hs : e00 V s a) (ha : wn a ≤ 2 ^ 45) :
 a00 prog y0r #[s.v] V fun v V' => v = .int .i64 (bl a : Nat) := by
 have hsl := hs.len
 have hwn : wn a = s.len := by simp only [wn]; exact hsl.symm
 refine P0p s V _ ⟨fun h => ?_, fun h => ?_⟩
 · have h : (s.len : Int) = 0 := by simpa using h
   have : a = 0 := S02.1 (by omega)
   subst this; rfl
 · have h : ¬ (s.len : Int) = 0 := by simpa using h
   have ha0 : a ≠ 0 := by rintro rfl; rw [P03] at hwn; omega
   rw [i64w (n := (s.len : Int) - 1) (by omega) (by omega)]
   have e : Int.toNat ((s.len : Int) - 1) = wn a - 1 := by omega
   refine ⟨⟨by omega, by omega, hs.isSome (by omega)⟩, _, hs.get (by omega) (by omega), ?_⟩
   rw [e]
   have hw := (i02 a).getD (wn a - 1)
   refine (Y08 hw).mono fun v V' _ hv => ⟨_, hv, ?_⟩
   have h2 := A0v ha0
   have h3 : bl ((dig a).getD (wn a - 1) 0) ≤ 32 := by
    have h3 := (j05 ha0).2.2
    have := W09 h3
    have := (Nat.pow_lt_pow_iff_right (a := 2) (n := bl ((dig a).getD (wn a - 1) 0) - 1) (m := 32) (by omega)).1 (by omega)
    omega
   rw [i64w (n := 32 * _) (by omega) (by omega), i64w (by omega) (by omega)]
   congr 1
   omega

def quo (n d : Nat) (l : Int) : Nat := n * 2 ^ (max (-l) 0).toNat / (d * 2 ^ (max l 0).toNat)
theorem I0u (a b : Int) : (if a > b then a else b) = max a b := by split <;> omega
theorem D0v {t : Nat} (h : t ≤ 2045) (h' : t ≠ 2045) : t * 2 ^ 52 + 2 ^ 53 < infR := by unfold infR; omega
theorem E0v {t m : Nat} (h : t ≤ 2045) (hm : m ≤ 2 ^ 53) (h' : m ≠ 2 ^ 53) : t * 2 ^ 52 + m < infR := by unfold infR; omega
theorem c0u {L : Int} {t : Nat} (h : (t : Int) = L + 1074) (h2 : L ≠ 971) : t ≠ 2045 := by omega
theorem q0o {L : Int} {t : Nat} (h : (t : Int) = L + 1074) (h2 : t ≤ 2045) : -1074 ≤ L ∧ L ≤ 2 ^ 40 := by omega
structure Rnd (way : Int) (r n d : Nat) : Prop where
 down : way = 0 → Q02 r n d
 up : way = 1 → IsUp r n d
 any : Q02 r n d ∨ IsUp r n d
theorem Rnd.le {way : Int} {r n d : Nat} (h : Rnd way r n d) : r ≤ infR := by
 rcases h.any with h | h
 · exact Nat.le_of_lt h.lt
 · exact h.le
theorem c0h {V : View} {sn sd : Sl} {n d : Nat} (way : Int) (hn : e00 V sn n) (hd : e00 V sd d) (d0 : 0 < d) (zn : bl n ≤ 2 ^ 30) (zd : bl d ≤ 2 ^ 30) :
 a00 prog E08 #[(t07.mk 53 (-1074) 1023).val, sn.v, sd.v, .int .i64 way] V fun v _ => ∃ r : Nat, v = .float .f64 r ∧ Rnd way r n d := by
 have wn44 : wn n ≤ 2 ^ 43 := J04 (by omega)
 have wd44 : wn d ≤ 2 ^ 43 := J04 (by omega)
 refine l0i (t07.mk 53 (-1074) 1023) sn sd way V _ (fun _ x _ => Mag n d x.t9 ∧ -(2 ^ 31 : Int) ≤ x.t9 ∧ x.t9 ≤ 2 ^ 31)
  (fun c x _ => ∃ i : Nat, x.t82 = i ∧ i ≤ c.t80.len ∧ x.t14 = ((wval ((dig (quo n d c.t10)).take i) : Nat) : Int)) (fun c x _ => (c.t81 - x.t82).toNat)
  (fun c x _ => ∃ m r t : Nat, x.t14 = m ∧ m ≤ 2 ^ 53 ∧ (t : Int) = c.t10 + 1074 ∧ t ≤ 2045 ∧ r = t * 2 ^ 52 + m ∧ rm r = m * 2 ^ t ∧ Rnd way r n d)
  (fun c _ _ => ∃ m r t : Nat, c.t14 = m ∧ m ≤ 2 ^ 53 ∧ (t : Int) = c.t10 + 1074 ∧ t ≤ 2045 ∧ r < infR ∧ r = t * 2 ^ 52 + m ∧ rm r = m * 2 ^ t ∧ Rnd way r n d) ?_
 refine ⟨fun h0 => ?_, fun h0 => ?_⟩
 · have hl : sn.len = 0 := by have : (sn.len : Int) = 0 := (by simpa using h0); omega
   have n0 : n = 0 := hn.len_zero.1 hl
   subst n0
   refine ⟨0, rfl, fun _ => Q02.zero d0, fun _ => IsUp.zero _, .inr (IsUp.zero _)⟩
 have hl : sn.len ≠ 0 := by have : ¬ (sn.len : Int) = 0 := (by simpa using h0); omega
 have n0 : n ≠ 0 := fun e => hl (hn.len_zero.2 e)
 refine (b0d hn (Nat.le_trans wn44 (by decide))).mono fun v V1 l1 hv => ⟨_, hv, ?_⟩
 refine (b0d (hd.le l1) (Nat.le_trans wd44 (by decide))).mono fun v V2 l2 hv => ⟨_, hv, ?_⟩
 have hn2 := hn.le (View.le_trans l1 l2)
 have hd2 := hd.le (View.le_trans l1 l2)
 have w0 : i64.wrap ((bl n : Nat) - (bl d : Nat) : Int) = (bl n : Int) - bl d := i64w (by omega) (by omega)
 have w1 : i64.wrap (0 - ((bl n : Int) - bl d)) = (bl d : Int) - bl n := by rw [i64w (by omega) (by omega)]; omega
 rw [w0, w1, I0u, I0u]
 obtain ⟨A, hA⟩ : ∃ A : Nat, (A : Int) = max 0 ((bl d : Int) - bl n) := ⟨(max 0 ((bl d : Int) - bl n)).toNat, by omega⟩
 obtain ⟨B, hB⟩ : ∃ B : Nat, (B : Int) = max 0 ((bl n : Int) - bl d) := ⟨(max 0 ((bl n : Int) - bl d)).toNat, by omega⟩
 rw [← hA, ← hB]
 have hmag := l0h (n := n) (d := d) (x := bl n) (y := bl d) (A := A) (B := B) (W09 n0) (I0a n) (W09 (by omega)) (I0a d) (N0c n0) (N0c (by omega)) (by omega)
 refine ⟨?_, ?_⟩
 · refine (C02 hn2 (Nat.le_trans wn44 (by decide)) (by omega)).mono fun v V4 l4 ⟨s1, hv, hs1⟩ => ⟨s1, hv, ?_⟩
   refine (C02 (hd2.le l4) (Nat.le_trans wd44 (by decide)) (by omega)).mono fun v V5 l5 ⟨s2, hv, hs2⟩ => ⟨s2, hv, ?_⟩
   have wb : wn (n * 2 ^ A) ≤ 2 ^ 50 := J04 (by
    have a1 := L08 n (2 ^ A)
    have a2 := Z01 A
    omega)
   refine (X06 (hs1.le l5) hs2 wb).mono fun v V6 l6 hv => ⟨_, hv, fun hc => ?_, fun hc => ?_⟩
   · simp only [decide_eq_true_eq] at hc
     have lt : n * 2 ^ A < d * 2 ^ B := by
      rcases Nat.lt_or_ge (n * 2 ^ A) (d * 2 ^ B) with g | g
      · exact g
      · exfalso; rw [if_neg (by omega)] at hc; split at hc <;> omega
     have e : i64.wrap ((bl n : Int) - bl d - 1) = (B : Int) - A - 1 := by rw [i64w (by omega) (by omega)]; omega
     show Mag n d (i64.wrap _) ∧ _ ≤ (i64.wrap _ : Int) ∧ (i64.wrap _ : Int) ≤ _
     rw [e]; exact ⟨hmag.1 lt, by omega, by omega⟩
   · simp only [decide_eq_false_iff_not] at hc
     have ge : d * 2 ^ B ≤ n * 2 ^ A := by
      rcases Nat.lt_or_ge (n * 2 ^ A) (d * 2 ^ B) with g | g
      · exfalso; rw [if_pos g] at hc; omega
      · exact g
     have e : (bl n : Int) - bl d = (B : Int) - A := by omega
     show Mag n d ((bl n : Int) - bl d) ∧ _ ≤ ((bl n : Int) - bl d) ∧ ((bl n : Int) - bl d) ≤ _
     rw [e]; exact ⟨hmag.2 ge, by omega, by omega⟩
 rintro ⟨e⟩ V3 l3 ⟨hM, he1, he2⟩
 have hM : Mag n d e := hM
 have he1 : -(2 ^ 31 : Int) ≤ e := he1
 have he2 : e ≤ (2 ^ 31 : Int) := he2
 dsimp only
 refine ⟨fun hc => ?_, fun hc => ?_⟩
 · simp only [decide_eq_true_eq] at hc
   have hov := hM.over (by omega)
   have hrm : rm (infR - 1) = (2 ^ 53 - 1) * 2 ^ 2045 := o0w (r := infR - 1) (e := 2045) (by decide)
   refine ⟨fun hw => ⟨by omega, ?_⟩, fun hw => ?_⟩
   · have hw : way = 0 := by simpa using hw
     have k1 : u64.wrap (u64.wrap (1 * 2 ^ (min (Int.toNat 53) (IntKind.bits .u64))) - 1) = ((2 ^ 53 - 1 : Nat) : Int) := by decide
     have k2 : i64.wrap (i64.wrap (1023 - 53) + 1) = 971 := by decide
     rw [k1, k2]
     have k3 : (971 + 1074 : Int).toNat = 2045 := by decide
     refine (Z0g (n := 2 ^ 53 - 1) (r := infR - 1) (s := 971) (by omega) (by omega) (by omega) (by omega) (by decide) (by rw [k3]; exact hrm)).mono fun v V7 _ hv => ⟨_, hv, _, rfl, ?_⟩
     have hD : Q02 (infR - 1) n d := ⟨by decide, Nat.le_trans (Nat.mul_le_mul_right d (N08.2 (by omega))) hov, .inl (by decide)⟩
     exact ⟨fun _ => hD, fun h => by omega, .inl hD⟩
   · have hw : way ≠ 0 := by simpa using hw
     refine a09.mono fun v V8 _ hv => ⟨_, hv, _, rfl, ?_⟩
     have hU : IsUp infR n d := ⟨Nat.le_refl _, .inl rfl, .inr (Nat.lt_of_lt_of_le (Nat.mul_lt_mul_of_pos_right (D0e (by decide)) d0) hov)⟩
     exact ⟨fun h => absurd h hw, fun _ => hU, .inr hU⟩
 · simp only [decide_eq_false_iff_not] at hc
   have k0 : i64.wrap (i64.wrap (e - 53) + 1) = e - 52 := by
    rw [i64w (n := e - 53) (by omega) (by omega), i64w (by omega) (by omega)]; omega
   obtain ⟨L, hL⟩ : ∃ L, L = max (e - 52) (-1074) := ⟨_, rfl⟩
   have kL : (if (-1074 : Int) > e - 52 then (-1074 : Int) else e - 52) = L := by split <;> omega
   rw [k0, kL]
   have k1 : i64.wrap (0 - L) = -L := by rw [i64w (by omega) (by omega)]; omega
   rw [k1]
   obtain ⟨a, ha⟩ : ∃ a : Nat, (a : Int) = max (-L) 0 := ⟨(max (-L) 0).toNat, by omega⟩
   obtain ⟨b, hb⟩ : ∃ b : Nat, (b : Int) = max L 0 := ⟨(max L 0).toNat, by omega⟩
   obtain ⟨t, ht⟩ : ∃ t : Nat, (t : Int) = L + 1074 := ⟨(L + 1074).toNat, by omega⟩
   have kb : (if (0 : Int) > L then (0 : Int) else L) = (b : Int) := by split <;> omega
   have ka : (if (0 : Int) > -L then (0 : Int) else -L) = (a : Int) := by split <;> omega
   rw [kb, ka]
   have hquo : quo n d L = n * 2 ^ a / (d * 2 ^ b) := by
    unfold quo
    have e1 : (max (-L) 0).toNat = a := by omega
    have e2 : (max L 0).toNat = b := by omega
    rw [e1, e2]
   obtain ⟨hq53, hq52, ht5, hr0, hdown, hup0, hup1, hr1⟩ := n0c d0 hM (by omega) hL ha hb rfl ht
   rw [← hquo] at hq53 hq52 hr0 hdown hup0 hup1 hr1
   have bn : bl (n * 2 ^ a) ≤ 2 ^ 31 := by
    have a1 := L08 n (2 ^ a)
    have a2 := Z01 a
    omega
   have bd : bl (d * 2 ^ b) ≤ 2 ^ 31 := by
    have a1 := L08 d (2 ^ b)
    have a2 := Z01 b
    omega
   have hub : 0 < d * 2 ^ b := Nat.mul_pos d0 (B03 b)
   refine (C02 (hd2.le l3) (Nat.le_trans wd44 (by decide)) (by omega)).mono fun v V9 l9 ⟨u, hv, hu⟩ => ⟨u, hv, ?_⟩
   refine (C02 (hn2.le (View.le_trans l3 l9)) (Nat.le_trans wn44 (by decide)) (by omega)).mono fun v V10 l10 ⟨s, hv, hs⟩ => ⟨s, hv, ?_⟩
   refine (O05 hs (hu.le l10) (J04 (by omega)) (by omega)).mono fun v V11 l11 ⟨q, r, hv, hq, hr⟩ => ⟨q, r, hv, ⟨0, rfl, by omega, by simp [wval]⟩, ?_⟩
   rw [← hquo] at hq
   generalize hQ : quo n d L = Q at hq53 hq52 hr0 hdown hup0 hup1 hr1 hq
   have hql : q.len = (dig Q).length := hq.len
   have hq2 : q.len ≤ 2 := by
    have : wn Q ≤ 2 := J04 (by have : bl Q ≤ 53 := I02 hq53; omega)
    simp only [wn] at this; omega
   rintro ⟨y, i'⟩ V12 l12 ⟨i, hi, hil, hy⟩
   have hi : i' = (i : Int) := hi
   have hil : i ≤ q.len := hil
   have hy : y = ((wval ((dig Q).take i) : Nat) : Int) := hy
   subst hi; subst hy
   dsimp only
   have hwl : ∀ j, j ≤ q.len → wval ((dig Q).take j) < 4294967296 ^ j := by
    intro j hj
    have := G0a (l := (dig Q).take j) (fun d hd => i02 Q d (List.mem_of_mem_take hd))
    rw [List.length_take, Nat.min_eq_left (by omega)] at this
    exact this
   refine ⟨fun hlt => ?_, fun hge => ?_⟩
   · simp only [decide_eq_true_eq] at hlt
     have hi' : i < q.len := by omega
     have w32 : i64.wrap (32 * (i : Int)) = ((32 * i : Nat) : Int) := by rw [i64w (by omega) (by omega)]; omega
     rw [w32]
     refine ⟨⟨by omega, by omega, hq.isSome (by omega)⟩, _, (hq.le l12).get (by omega) (by omega), by omega, ?_⟩
     rw [Int.toNat_natCast, Int.toNat_natCast]
     have hg := (i02 Q).getD i
     generalize hwd : (dig Q).getD i 0 = w at hg
     have hyl := hwl i (by omega)
     have hyl2 := hwl (i + 1) (by omega)
     rw [f00, hwd] at hyl2
     generalize hyy : wval ((dig Q).take i) = y at hyl hyl2
     have e4 : 4294967296 ^ i = 2 ^ (32 * i) := by rw [show (4294967296 : Nat) = 2 ^ 32 from rfl, ← Nat.pow_mul]
     have hmin : min (32 * i) u64.bits = 32 * i := Nat.min_eq_left (by show 32 * i ≤ 64; omega)
     have hpow : (2 : Int) ^ (32 * i) = ((2 ^ (32 * i) : Nat) : Int) := by rw [Int.natCast_pow]; rfl
     have hle : 4294967296 ^ (i + 1) ≤ 18446744073709551616 := by
      have : 4294967296 ^ (i + 1) ≤ 4294967296 ^ 2 := Nat.pow_le_pow_right (by omega) (by omega)
      omega
     have hor := Nat.two_pow_add_eq_or_of_lt (i := 32 * i) (b := y) (by rw [← e4]; exact hyl) w
     rw [← e4] at hor
     have hval : u64.wrap (BitVec.toNat ((BitVec.ofInt u64.bits (y : Int)) ||| (BitVec.ofInt u64.bits (u64.wrap ((u64.wrap (w : Int)) * 2 ^ (min (32 * i) (IntKind.bits .u64))))))) = ((y + w * 4294967296 ^ i : Nat) : Int) := by
      have hw64 : w * 4294967296 ^ i < 2 ^ 64 := by omega
      rw [hmin, hpow, ← e4, b03 (y := w) (by omega), ← Int.natCast_mul, b03 hw64, Y0g (by omega) hw64]
      congr 1
      rw [Nat.or_comm, Nat.mul_comm w, ← hor]; omega
     rw [hval]
     refine ⟨⟨i + 1, ?_, by show i + 1 ≤ q.len; omega, ?_⟩, ?_⟩
     · show i64.wrap ((i : Int) + 1) = ((i + 1 : Nat) : Int)
       rw [i64w (by omega) (by omega)]; omega
     · show ((y + w * 4294967296 ^ i : Nat) : Int) = ((wval ((dig Q).take (i + 1)) : Nat) : Int)
       rw [f00, hwd, hyy]
     · show ((q.len : Int) - i64.wrap ((i : Int) + 1)).toNat < ((q.len : Int) - (i : Int)).toNat
       rw [i64w (by omega) (by omega)]; omega
   · simp only [decide_eq_false_iff_not] at hge
     have hiq : wval ((dig Q).take i) = Q := by rw [j00 (by omega), o00]
     rw [hiq]
     have hr12 := hr.le l12
     have hrb : n * 2 ^ a % (d * 2 ^ b) < d * 2 ^ b := Nat.mod_lt _ hub
     have hwr : wn (n * 2 ^ a % (d * 2 ^ b)) ≤ 2 ^ 43 := Nat.le_trans (X04 (Nat.le_of_lt hrb)) (J04 (by omega))
     refine (C02 (n := 1) hr12 (Nat.le_trans hwr (by decide)) (by omega)).mono fun v V13 l13 ⟨s2, hv, hs2⟩ => ⟨s2, hv, ?_⟩
     have hw2 : wn (n * 2 ^ a % (d * 2 ^ b) * 2 ^ 1) ≤ 2 ^ 50 := by
      have := K05 (n * 2 ^ a % (d * 2 ^ b)) (2 ^ 1)
      have : wn (2 ^ 1) ≤ 2 ^ 43 := wn64 (by omega)
      omega
     refine (X06 hs2 (hu.le (View.le_trans l10 (View.le_trans l11 (View.le_trans l12 l13)))) hw2).mono fun v V14 l14 hv => ⟨_, hv, ?_⟩
     have hrz : r.len = 0 ↔ n * 2 ^ a % (d * 2 ^ b) = 0 := hr.len_zero
     have qs : Rnd way (t * 2 ^ 52 + Q) n d → (∃ m r t' : Nat, (Q : Int) = m ∧ m ≤ 2 ^ 53 ∧ (t' : Int) = L + 1074 ∧ t' ≤ 2045 ∧ r = t' * 2 ^ 52 + m ∧ rm r = m * 2 ^ t' ∧ Rnd way r n d) :=
      fun h => ⟨Q, _, t, rfl, by omega, ht, ht5, rfl, hr0, h⟩
     have ps : Rnd way (t * 2 ^ 52 + Q + 1) n d → (∃ m r t' : Nat, u64.wrap ((Q : Int) + 1) = m ∧ m ≤ 2 ^ 53 ∧ (t' : Int) = L + 1074 ∧ t' ≤ 2045 ∧ r = t' * 2 ^ 52 + m ∧ rm r = m * 2 ^ t' ∧ Rnd way r n d) :=
      fun h => ⟨Q + 1, t * 2 ^ 52 + Q + 1, t, by rw [u64w (by omega) (by omega)]; omega, by omega, ht, ht5, by omega, hr1, h⟩
     have notup : way ≠ 1 → Rnd way (t * 2 ^ 52 + Q) n d := fun h => ⟨fun _ => hdown, fun e => absurd e h, .inl hdown⟩
     have near : way ≠ 1 → way ≠ 0 → Rnd way (t * 2 ^ 52 + Q + 1) n d ∨ n * 2 ^ a % (d * 2 ^ b) = 0 := by
      intro h h'
      by_cases z : n * 2 ^ a % (d * 2 ^ b) = 0
      · exact .inr z
      · exact .inl ⟨fun e => absurd e h', fun e => absurd e h, .inr (hup1 z)⟩
     refine ⟨⟨fun hw => ?_, fun hw => ?_⟩, ?_⟩
     · have hw : way = 1 := by simpa using hw
       refine ⟨fun hz => ?_, fun hz => ?_⟩
       · simp only [decide_eq_true_eq] at hz
         have z : n * 2 ^ a % (d * 2 ^ b) ≠ 0 := fun z => by have := hrz.2 z; rw [this] at hz; simp at hz
         exact ps ⟨fun h => absurd (h.symm.trans hw : (0 : Int) = 1) (by decide), fun _ => hup1 z, .inr (hup1 z)⟩
       · simp only [decide_eq_false_iff_not] at hz
         have z0 : r.len = 0 := by generalize r.len = k at hz; omega
         have z := hrz.1 z0
         have g := qs ⟨fun h => absurd (h.symm.trans hw : (0 : Int) = 1) (by decide), fun _ => hup0 z, .inl hdown⟩
         refine ⟨fun h => ?_, fun _ => g⟩
         have h : way = 2 := by simpa using h
         exact absurd (h.symm.trans hw : (2 : Int) = 1) (by decide)
     · have hw : way ≠ 1 := by simpa using hw
       have g := qs (notup hw)
       refine ⟨fun h2 => ?_, fun _ => g⟩
       have h2 : way = 2 := by simpa using h2
       have h20 : way ≠ 0 := fun e => absurd (h2.symm.trans e : (2 : Int) = 0) (by decide)
       have pz : n * 2 ^ a % (d * 2 ^ b) ≠ 0 → (∃ m r t' : Nat, u64.wrap ((Q : Int) + 1) = m ∧ m ≤ 2 ^ 53 ∧ (t' : Int) = L + 1074 ∧ t' ≤ 2045 ∧ r = t' * 2 ^ 52 + m ∧ rm r = m * 2 ^ t' ∧ Rnd way r n d) :=
        fun z => ps ⟨fun e => absurd e h20, fun e => absurd e hw, .inr (hup1 z)⟩
       -- a half is more than nothing
       have cmpz : n * 2 ^ a % (d * 2 ^ b) = 0 → (if n * 2 ^ a % (d * 2 ^ b) * 2 ^ 1 < d * 2 ^ b then (-1 : Int) else if n * 2 ^ a % (d * 2 ^ b) * 2 ^ 1 = d * 2 ^ b then 0 else 1) = -1 := by
        intro z; rw [z, Nat.zero_mul, if_pos hub]
       refine ⟨fun h3 => pz fun z => ?_, fun h3 => ⟨fun h4 => ⟨fun h5 => pz fun z => ?_, fun _ => g⟩, fun _ => g⟩⟩
       · rw [cmpz z] at h3; simp at h3
       · rw [cmpz z] at h4; simp at h4
     rintro ⟨x⟩ V15 l15 ⟨m, r, t', hx, hm, ht', ht5', hr', hrm', hR⟩
     have hx : x = (m : Int) := hx
     subst hx
     dsimp only at ht' ⊢
     have htt : t' = t := by have e := ht'.trans ht.symm; exact Int.ofNat.inj e
     subst htt
     have k53 : u64.wrap (1 * 2 ^ (min (Int.toNat 53) (IntKind.bits .u64))) = ((2 ^ 53 : Nat) : Int) := by decide
     have k971 : i64.wrap (i64.wrap (1023 - 53) + 1) = 971 := by decide
     rw [k53, k971]
     refine ⟨⟨by omega, fun h1 => ⟨fun h2 => ?_, fun h2 => ?_⟩, fun h1 => ?_⟩, ?_⟩
     · have h1 : m = 2 ^ 53 := Int.ofNat.inj (by simpa using h1)
       have h2 : L = 971 := by simpa using h2
       have hri : r = infR := by
        rw [hr', h1]
        have : t' = 2045 := by rw [h2] at ht'; exact Int.ofNat.inj ht'
        rw [this]; decide
       refine a09.mono fun v V17 _ hv => ⟨_, hv, r, by rw [hri], hR⟩
     · have h1 : m = 2 ^ 53 := Int.ofNat.inj (by simpa using h1)
       have h2 : L ≠ 971 := by simpa using h2
       refine ⟨m, r, t', rfl, hm, ht', ht5', ?_, hr', hrm', hR⟩
       rw [hr', h1]
       exact D0v ht5' (c0u ht' h2)
     · have h1 : m ≠ 2 ^ 53 := fun e => by rw [e] at h1; simp at h1
       refine ⟨m, r, t', rfl, hm, ht', ht5', ?_, hr', hrm', hR⟩
       rw [hr']
       exact E0v ht5' hm h1
     rintro _ V16 l16 ⟨m', r', t2, hm1, hm2, ht2, ht3, hri, hre, hrm2, hR2⟩
     have hm1 : (m : Int) = m' := hm1
     have hmm : m = m' := Int.ofNat.inj hm1
     subst hmm
     have ht2 : (t2 : Int) = L + 1074 := ht2
     by_cases m0 : m = 0
     · subst m0
       have r0 : r' = 0 := k0w (by rw [hrm2, Nat.zero_mul, O08])
       refine p0q.mono fun v V18 _ hv => ⟨_, hv, r', by rw [r0], hR2⟩
     · refine (Z0g (n := m) (s := L) (r := r') m0 hm2 (q0o ht2 ht3).1 (q0o ht2 ht3).2 hri ?_).mono fun v V18 _ hv => ⟨_, hv, r', rfl, hR2⟩
       · rw [← ht2, Int.toNat_natCast]; exact hrm2

theorem J02 (r : Nat) : k00 (r : Int) = r := by unfold k00; rw [if_neg (by omega)]; omega
theorem S0e {r : Nat} (h : 0 < r) : k00 (-(r : Int)) = 2 ^ 63 + r := by unfold k00; rw [if_pos (by omega)]; omega
theorem q0q {V : View} {sn sd : Sl} {n d : Nat} {w : Int} {R : Nat → Prop} (_ : n ≠ 0) (_ : 0 < d)
 (h : a00 prog E08 #[(t07.mk 53 (-1074) 1023).val, sn.v, sd.v, .int .i64 w] V fun v _ => ∃ r : Nat, v = .float .f64 r ∧ (Q02 r n d ∨ IsUp r n d) ∧ R r) {Q : Value → View → Prop}
 (k : ∀ r V', R r → r ≤ infR → (0 < r → Q (.float .f64 (2 ^ 63 + r)) V') ∧ (r = 0 → Q (.float .f64 0) V')) :
 a00 prog E08 #[(t07.mk 53 (-1074) 1023).val, sn.v, sd.v, .int .i64 w] V fun v V2 => ∃ r2 : Nat, v = .float .f64 r2 ∧
  ((FloatKind.f64.format.order r2 0 != some .eq) = true → Q (.float .f64 (Op.negFloat .f64 r2)) V2) ∧ ((FloatKind.f64.format.order r2 0 != some .eq) = false → Q (.float .f64 0) V2) := by
 refine h.mono fun v V2 _ ⟨r, hv, hd, hR⟩ => ⟨r, hv, ?_⟩
 have hr : r ≤ infR := by
  rcases hd with h | h
  · exact Nat.le_of_lt h.lt
  · exact h.le
 have hr63 : r < 2 ^ 63 := by unfold infR at hr; omega
 have hok : okW r := ⟨by omega, by rw [Nat.mod_eq_of_lt hr63]; exact hr⟩
 have hkey : key r = (r : Int) := b09 hr63
 have k0 : key 0 = 0 := by decide
 have e : (FloatKind.f64.format.order r 0 != some .eq) = !decide ((r : Int) = 0) := by
  show (!(FloatKind.f64.format.order r 0 == some .eq)) = _
  rw [l08 hok (by decide), hkey, k0]
 rw [e]
 obtain ⟨k1, k2⟩ := k r V2 hR hr
 refine ⟨fun h1 => ?_, fun h1 => ?_⟩
 · have h1 : r ≠ 0 := fun c => by subst c; simp at h1
   rw [Z04 (by omega), if_pos hr63, Nat.add_comm]
   exact k1 (by omega)
 · have h1 : r = 0 := by
     by_cases c : r = 0
     · exact c
     · rw [decide_eq_false (by omega)] at h1; simp at h1
   exact k2 h1
theorem T0e {V : View} {x : WhV} {s : Sl} {A : Int} {D : Nat} {way : Int} (hw : way = 0 ∨ way = 1) (hx : I00 V x A) (hs : e00 V s D) (D0 : 0 < D) (zA : bl A.natAbs ≤ 2 ^ 30) (zD : bl D ≤ 2 ^ 30) :
 a00 prog A0h #[(t07.mk 53 (-1074) 1023).val, x.val, s.v, .int .i64 way] V fun v _ =>
  v = .float .f64 (k00 (if 0 ≤ A then (if way = 0 then (M05 A.natAbs D : Int) else (upK A.natAbs D : Int)) else (if way = 0 then -(upK A.natAbs D : Int) else -(M05 A.natAbs D : Int)))) := by
 refine Q0f (t07.mk 53 (-1074) 1023) x s way V _ ⟨fun h => ?_, fun h => ?_⟩
 · have hA : 0 ≤ A := by rw [hx.1] at h; simpa using h
   refine (c0h way hx.2 hs D0 zA zD).mono fun v V1 _ ⟨r, hv, hR⟩ => ⟨r, hv, ?_⟩
   rw [if_pos hA]
   rcases hw with rfl | rfl
   · rw [if_pos rfl, (hR.down rfl).unique D0 (D02 D0), J02]
   · rw [if_neg (by decide), (hR.up rfl).unique D0 (E03 D0), J02]
 · have hA : A < 0 := by rw [hx.1] at h; simpa using h
   have n0 : A.natAbs ≠ 0 := by omega
   have hnA : ¬ 0 ≤ A := by omega
   refine ⟨fun _ => ?_, fun h2 => ?_⟩
   · have hw2 : i64.wrap (1 - way) = 1 - way := i64w (by omega) (by omega)
     rw [hw2, if_neg hnA]
     refine q0q (Q := fun v _ => v = .float .f64 (k00 (if way = 0 then -(upK A.natAbs D : Int) else -(M05 A.natAbs D : Int)))) (R := fun r => Rnd (1 - way) r A.natAbs D) n0 D0 ((c0h (1 - way) hx.2 hs D0 zA zD).mono fun v V1 _ ⟨r, hv, hR⟩ => ⟨r, hv, hR.any, hR⟩) fun r V' hR hr => ?_
     have hrv : (r : Int) = if way = 0 then (upK A.natAbs D : Int) else (M05 A.natAbs D : Int) := by
      rcases hw with rfl | rfl
      · rw [if_pos rfl, (hR.up (by decide)).unique D0 (E03 D0)]
      · rw [if_neg (by decide), (hR.down (by decide)).unique D0 (D02 D0)]
     have e : (if way = 0 then -(upK A.natAbs D : Int) else -(M05 A.natAbs D : Int)) = -(r : Int) := by
      rw [hrv]; split <;> rfl
     rw [e]
     refine ⟨fun h0 => ?_, fun h0 => ?_⟩
     · rw [S0e h0]
     · rw [h0]; rfl
   · exfalso
     have h2 : way = 2 := by simpa using h2
     omega
theorem s0o (z : Cq) : z.re.num * (z.D : Int) = z.A * (z.re.den : Int) := by
 have h := z.canon.rep
 have h1 : ((z.re.num : Int) : Rat) / ((z.re.den : Nat) : Rat) = (z.A : Rat) / (z.D : Rat) := by
  rw [← h.re, ← Rat.mkRat_eq_div]; exact Rat.mkRat_self z.re
 exact (u01 z.re.den_nz h.pos).1 h1
theorem d09 (z : Cq) : 0 ≤ z.A ↔ 0 ≤ z.re.num := by
 have h := s0o z
 have h1 : (0 : Int) < (z.D : Int) := by have := z.canon.rep.pos; omega
 have h2 : (0 : Int) < (z.re.den : Int) := by have := z.re.den_nz; omega
 constructor
 · intro g
   refine Int.not_lt.1 fun c => ?_
   have a := Int.mul_neg_of_neg_of_pos c h1
   have b := Int.mul_nonneg g (Int.le_of_lt h2)
   omega
 · intro g
   refine Int.not_lt.1 fun c => ?_
   have a := Int.mul_neg_of_neg_of_pos c h2
   have b := Int.mul_nonneg g (Int.le_of_lt h1)
   omega
theorem J0u (z : Cq) : z.A.natAbs * z.re.den = z.re.num.natAbs * z.D := by
 have h := congrArg Int.natAbs (s0o z)
 rw [Int.natAbs_mul, Int.natAbs_mul, Int.natAbs_natCast, Int.natAbs_natCast] at h
 exact h.symm
theorem b0j (z : Cq) : M05 z.A.natAbs z.D = M05 z.re.num.natAbs z.re.den := by
 have d1 : 0 < z.D := by have := z.canon.rep.pos; omega
 have d2 : 0 < z.re.den := by have := z.re.den_nz; omega
 exact ((D02 d1).congr d1 d2 (J0u z)).unique d2 (D02 d2)
theorem d0u (z : Cq) : upK z.A.natAbs z.D = upK z.re.num.natAbs z.re.den := by
 have d1 : 0 < z.D := by have := z.canon.rep.pos; omega
 have d2 : 0 < z.re.den := by have := z.re.den_nz; omega
 exact ((E03 d1).congr d1 d2 (J0u z)).unique d2 (E03 d2)
theorem U0e {V : View} : a00 prog S0j #[] V fun v _ => v = (t07.mk 53 (-1074) 1023).val := n0i V _ rfl
theorem s0q {V : View} {x : NumV} {z : Cq} (hx : S01 V x z) (hz : z.sz ≤ 2 ^ 30) : a00 prog i0m #[x.val] V fun v _ => v = .float .f64 (k00 (l00 z.re)) := by
 have zA := z.szA; have zD := z.szD
 refine y0k x V _ (U0e.mono fun v V1 l1 hv => ⟨_, hv, (f01 (hx.le l1)).mono fun v V2 l2 ⟨s, hv, hs⟩ => ⟨s, hv, ?_⟩⟩)
 refine (T0e (way := 0) (.inl rfl) ((hx.le (View.le_trans l1 l2)).re) hs (by have := z.canon.rep.pos; omega) (by omega) (by omega)).mono fun v V3 _ hv => ⟨_, hv, ?_⟩
 unfold l00
 rw [b0j z, d0u z]
 by_cases c : 0 ≤ z.A
 · rw [if_pos c, if_pos ((d09 z).1 c), if_pos rfl]
 · rw [if_neg c, if_neg (fun g => c ((d09 z).2 g)), if_pos rfl]
theorem d0h {V : View} {x : NumV} {z : Cq} (hx : S01 V x z) (hz : z.sz ≤ 2 ^ 30) : a00 prog j0m #[x.val] V fun v _ => v = .float .f64 (k00 (H00 z.re)) := by
 have zA := z.szA; have zD := z.szD
 refine z0k x V _ (U0e.mono fun v V1 l1 hv => ⟨_, hv, (f01 (hx.le l1)).mono fun v V2 l2 ⟨s, hv, hs⟩ => ⟨s, hv, ?_⟩⟩)
 refine (T0e (way := 1) (.inr rfl) ((hx.le (View.le_trans l1 l2)).re) hs (by have := z.canon.rep.pos; omega) (by omega) (by omega)).mono fun v V3 _ hv => ⟨_, hv, ?_⟩
 unfold H00
 rw [b0j z, d0u z]
 by_cases c : 0 ≤ z.A
 · rw [if_pos c, if_pos ((d09 z).1 c), if_neg (by decide)]
 · rw [if_neg c, if_neg (fun g => c ((d09 z).2 g)), if_neg (by decide)]

theorem K07 {V : View} {s : Sl} {a : Nat} (hs : e00 V s a) : a00 prog g0b #[s.v, .int .i64 0] V fun v _ => v = .int .u32 ((a % 2 : Nat) : Int) := by
 have hl := hs.len_zero
 have k0 : i64.wrap (Int.tdiv 0 32) = 0 := by decide
 have k1 : u64.wrap (Int.tmod 0 32) = 0 := by decide
 refine z0f s 0 V _ ⟨fun h => absurd h (by decide), fun _ => ⟨fun h => ?_, fun h => ?_⟩⟩
 · rw [k0] at h
   have h : s.len = 0 := by have : (0 : Int) ≥ (s.len : Int) := by simpa using h
                            omega
   rw [hl.1 h]; rfl
 · rw [k0] at h ⊢
   have h : 0 < s.len := by have : ¬ (0 : Int) ≥ (s.len : Int) := by simpa using h
                            omega
   refine ⟨⟨by omega, by omega, hs.isSome h⟩, _, hs.get (by omega) (by omega), by rw [k1]; omega, ?_⟩
   rw [k1]
   have e0 : (min (Int.toNat 0) u32.bits) = 0 := by decide
   rw [e0]
   have g := (i02 a).getD 0
   have e1 : (dig a).getD 0 0 = a % 4294967296 := by rw [x0b]; simp
   have e2 : Int.fdiv (((dig a).getD (Int.toNat 0) 0 : Nat) : Int) (2 ^ 0) = ((a % 4294967296 : Nat) : Int) := by
    rw [show (Int.toNat 0) = 0 from rfl, e1, Int.fdiv_eq_ediv_of_nonneg _ (by omega)]; simp
   rw [e2]
   have e3 : BitVec.toNat ((BitVec.ofInt u32.bits ((a % 4294967296 : Nat) : Int)) &&& (BitVec.ofInt u32.bits 1)) = a % 4294967296 % 2 := by
    rw [BitVec.toNat_and]
    have a1 : (BitVec.ofInt u32.bits ((a % 4294967296 : Nat) : Int)).toNat = a % 4294967296 := of32 (Nat.mod_lt _ (by decide))
    have a2 : (BitVec.ofInt u32.bits 1).toNat = 1 := by decide
    rw [a1, a2]; exact Nat.and_one_is_mod _
   rw [e3]
   have e4 : a % 4294967296 % 2 = a % 2 := by omega
   rw [e4, u32w (by omega) (by omega)]
theorem W0e {V : View} {sa sd : Sl} {a d K : Nat} (hK : K = 1074) (ha : e00 V sa a) (hd : e00 V sd d) (a0 : a ≠ 0) (d0 : 0 < d) (za : bl a ≤ 2 ^ 30) (zd : bl d ≤ 2 ^ 30) :
 a00 prog c0k #[sa.v, sd.v, .int .i64 53, .int .i64 (-1074)] V fun v V' => ∃ (r : Sl) (T m l : Nat) (b : Bool), v = .tuple #[r.v, .int .i64 ((T : Int) - 1074), .int .u32 (l : Int), .bool b] ∧
  e00 V' r m ∧ m < 2 ^ 53 ∧ T ≤ 2 ^ 33 ∧ Spl a d K T m (b = true ∨ l = 1) := by
 have wa : wn a ≤ 2 ^ 43 := J04 (by omega)
 have wd : wn d ≤ 2 ^ 43 := J04 (by omega)
 have ba := N0c a0
 refine Z0h sa sd 53 (-1074) V _ (fun _ x _ => x.t9 = max ((bl a : Int) - bl d - 54) (-1075))
  (fun c x V => c.t9 = max ((bl a : Int) - bl d - 54) (-1075) ∧ ∃ q r : Nat, e00 V x.t13 q ∧ e00 V x.t14 r ∧ (0 ≤ c.t9 → q = a / (d * 2 ^ c.t9.toNat) ∧ r = a % (d * 2 ^ c.t9.toNat)) ∧ (c.t9 < 0 → q = a * 2 ^ (-c.t9).toNat / d ∧ r = a * 2 ^ (-c.t9).toNat % d))
  (fun _ x V => ∃ T q l : Nat, x.t9 = (T : Int) - 1074 ∧ x.t10 = (l : Int) ∧ e00 V x.t13 q ∧ T + bl q ≤ 2 ^ 33 ∧ Spl a d K T q (x.t11 = true ∨ l = 1))
  (fun _ x V => bl (M0c V x.t13)) ?_
 refine (m01 ha (Nat.le_trans wa (by decide))).mono fun v V1 l1 hv => ⟨_, hv, (m01 (hd.le l1) (Nat.le_trans wd (by decide))).mono fun v V2 l2 hv => ⟨_, hv, ?_⟩⟩
 have w0 : i64.wrap ((-1074 : Int) - 1) = -1075 := by decide
 have w1 : i64.wrap (i64.wrap (i64.wrap ((bl a : Nat) - (bl d : Nat) : Int) - 53) - 1) = (bl a : Int) - bl d - 54 := by
  rw [i64w (n := (bl a : Int) - bl d) (by omega) (by omega), i64w (n := (bl a : Int) - bl d - 53) (by omega) (by omega), i64w (by omega) (by omega)]; omega
 rw [w0, w1]
 refine ⟨⟨fun hc => ?_, fun hc => ?_⟩, ?_⟩
 · have hc : (bl a : Int) - bl d - 54 < -1075 := by simpa using hc
   show (-1075 : Int) = _; omega
 · have hc : ¬ (bl a : Int) - bl d - 54 < -1075 := by simpa using hc
   show (bl a : Int) - bl d - 54 = _; omega
 rintro ⟨e⟩ V3 l3 he
 have he : e = max ((bl a : Int) - bl d - 54) (-1075) := he
 have L3 := View.le_trans l1 (View.le_trans l2 l3)
 dsimp only
 refine ⟨⟨fun hc => ?_, fun hc => ?_⟩, ?_⟩
 · have hc : e ≥ 0 := by simpa using hc
   obtain ⟨E, rfl⟩ : ∃ E : Nat, e = (E : Int) := ⟨e.toNat, by omega⟩
   refine (z01 (hd.le L3) (Nat.le_trans wd (by decide)) (by omega)).mono fun v V5 l5 ⟨s, hv, hs⟩ => ⟨s, hv, ?_⟩
   refine (Q01 (ha.le (View.le_trans L3 l5)) hs wa (Nat.pos_iff_ne_zero.1 (Nat.mul_pos d0 (B03 E)))).mono fun v V6 l6 ⟨q, r, hv, hq, hr⟩ => ⟨q, r, hv, he, _, _, hq, hr, fun _ => ?_, fun h => ?_⟩
   · rw [Int.toNat_natCast]; exact ⟨rfl, rfl⟩
   · have h : (E : Int) < 0 := h
     omega
 · have hc : ¬ e ≥ 0 := by simpa using hc
   have w2 : i64.wrap (0 - e) = ((-e).toNat : Int) := by rw [i64w (by omega) (by omega)]; omega
   rw [w2]
   refine (z01 (ha.le L3) (Nat.le_trans wa (by decide)) (by omega)).mono fun v V5 l5 ⟨s, hv, hs⟩ => ⟨s, hv, ?_⟩
   have b1 := L08 a (2 ^ (-e).toNat)
   have b2 := Z01 (-e).toNat
   refine (Q01 hs (hd.le (View.le_trans L3 l5)) (J04 (by omega)) (by omega)).mono fun v V6 l6 ⟨q, r, hv, hq, hr⟩ => ⟨q, r, hv, he, _, _, hq, hr, fun h => ?_, fun _ => ⟨rfl, rfl⟩⟩
   have h : 0 ≤ e := h
   omega
 rintro ⟨q', r'⟩ V4 l4 ⟨_, q, r, hq, hr, h1, h2⟩
 dsimp only at hq hr h1 h2 ⊢
 have bq : bl q ≤ 2 ^ 31 := by
  by_cases hc : 0 ≤ e
  · have := C06 (Nat.div_le_self a (d * 2 ^ e.toNat))
    rw [← (h1 hc).1] at this; omega
  · have b1 := L08 a (2 ^ (-e).toNat)
    have b2 := Z01 (-e).toNat
    have := C06 (Nat.div_le_self (a * 2 ^ (-e).toNat) d)
    rw [← (h2 (by omega)).1] at this; omega
 have wq : wn q ≤ 2 ^ 44 := J04 (by omega)
 refine (K07 hq).mono fun v V9 l9 hv => ⟨_, hv, ?_⟩
 refine (x03 (n := 1) (hq.le l9) wq (by omega)).mono fun v V10 l10 ⟨s10, hv, hs10⟩ => ⟨s10, hv, ?_⟩
 rw [Nat.pow_one] at hs10
 have bq2 : bl (q / 2) ≤ bl q := C06 (Nat.div_le_self _ _)
 have hr0 := hr.len_zero
 have hrest : (r ≠ 0 ∨ q % 2 = 1) ↔ (decide (((r'.len : Int) : Int) > 0) = true ∨ q % 2 = 1) := by
  rw [decide_eq_true_iff]
  have : r ≠ 0 ↔ (r'.len : Int) > 0 := by rw [Ne, ← hr0]; omega
  rw [this]
 refine ⟨?_, ?_⟩
 · have hT : i64.wrap (e + 1) = ((e + 1075).toNat : Int) - 1074 := by rw [i64w (by omega) (by omega)]; omega
   refine ⟨(e + 1075).toNat, q / 2, q % 2, hT, rfl, hs10, by omega, ?_⟩
   by_cases hc : 0 ≤ e
   · obtain ⟨E, rfl⟩ : ∃ E : Nat, e = (E : Int) := ⟨e.toNat, by omega⟩
     obtain ⟨e1, e2⟩ := h1 hc
     rw [Int.toNat_natCast] at e1 e2
     have eT : ((E : Int) + 1075).toNat = E + 1 + K := by omega
     rw [eT]
     exact (B0l d0 e1 e2 (b0s d0 (W09 a0) (I0a d) ba (by omega))).congr hrest
   · obtain ⟨E, hE⟩ : ∃ E : Nat, (-e).toNat = E + 1 := ⟨(-e).toNat - 1, by omega⟩
     obtain ⟨e1, e2⟩ := h2 (by omega)
     rw [hE] at e1 e2
     refine (l0g (K := K) d0 (by omega) e1 e2 ?_).congr hrest
     by_cases z : e = -1075
     · exact .inl (by omega)
     · exact .inr (b0s d0 (W09 a0) (I0a d) ba (by omega))
 rintro ⟨e2, x10, x11, q2'⟩ V11 l11 ⟨T, q2, l, hT, hl, hq2, hb2, hS⟩
 dsimp only at hT hl hq2 hS ⊢
 subst hT; subst hl
 have wq2 : wn q2 ≤ 2 ^ 44 := J04 (by omega)
 refine (m01 hq2 (Nat.le_trans wq2 (by decide))).mono fun v V12 l12 hv => ⟨_, hv, fun hc => ?_, fun hc => ?_⟩
 · have hc : 53 < bl q2 := by have : ((bl q2 : Nat) : Int) > 53 := by simpa using hc
                              omega
   have q53 : 2 ^ 53 ≤ q2 := by
    refine Nat.le_of_not_lt fun g => ?_
    have := I02 g
    omega
   have hh := y0s (x := q2) (by omega)
   have wT : i64.wrap ((T : Int) - 1074 + 1) = ((T + 1 : Nat) : Int) - 1074 := by rw [i64w (by omega) (by omega)]; omega
   have hst := hS.step d0 q53
   have fin : ∀ (y : Bool), ((x11 = true ∨ l = 1) ↔ y = true) → a00 prog g0b #[q2'.v, .int .i64 0] V12 fun v V13 => ∃ r12 : Int, v = .int .u32 r12 ∧ a00 prog S07 #[q2'.v, .int .i64 1] V13 fun v V14 => ∃ r13 : Sl, v = r13.v ∧
    ((∃ T' q l' : Nat, i64.wrap ((T : Int) - 1074 + 1) = (T' : Int) - 1074 ∧ r12 = (l' : Int) ∧ e00 V14 r13 q ∧ T' + bl q ≤ 2 ^ 33 ∧ Spl a d K T' q (y = true ∨ l' = 1)) ∧ bl (M0c V14 r13) < bl (M0c V11 q2')) := by
    intro y hy
    refine (K07 (hq2.le l12)).mono fun v V13 l13 hv => ⟨_, hv, (x03 (n := 1) (hq2.le (View.le_trans l12 l13)) wq2 (by omega)).mono fun v V14 l14 ⟨s14, hv, hs14⟩ => ⟨s14, hv, ?_⟩⟩
    rw [Nat.pow_one] at hs14
    refine ⟨⟨T + 1, q2 / 2, q2 % 2, wT, rfl, hs14, by omega, hst.congr (by rw [hy])⟩, ?_⟩
    rw [L05 hs14, L05 hq2]; omega
   refine ⟨fun h11 => ?_, fun h11 => ?_⟩
   · exact fin true (by simp [h11])
   · exact fin ((l : Int) == 1) (by rw [h11]; simp; omega)
 · have hc : ¬ 53 < bl q2 := by have : ¬ ((bl q2 : Nat) : Int) > 53 := by simpa using hc
                                omega
   exact ⟨_, T, q2, l, x11, rfl, hq2.le l12, Z07 (by omega), by omega, hS⟩

theorem c0g (l : List Nat) {i : Nat} (h : i < l.length) : wval (l.drop i) = l.getD i 0 + 4294967296 * wval (l.drop (i + 1)) := by
 rw [List.drop_eq_getElem_cons h]
 simp [wval, List.getD, h]
theorem G0w {y w : Nat} (hy : y < 2 ^ 32) (hw : w < 4294967296) :
 u64.wrap (BitVec.toNat ((BitVec.ofInt u64.bits (u64.wrap ((y : Int) * 2 ^ (min (Int.toNat 32) u64.bits)))) ||| (BitVec.ofInt u64.bits (u64.wrap (w : Int))))) = ((w + 4294967296 * y : Nat) : Int) := by
 have e0 : (2 : Int) ^ (min (Int.toNat 32) u64.bits) = ((4294967296 : Nat) : Int) := by decide
 rw [e0, ← Int.natCast_mul, b03 (y := y * 4294967296) (by omega), b03 (y := w) (by omega), Y0g (by omega) (by omega)]
 have h := Nat.two_pow_add_eq_or_of_lt (i := 32) (b := w) (by omega) y
 have e : y * 4294967296 ||| w = 2 ^ 32 * y + w := by rw [h, Nat.mul_comm y]
 rw [e]; omega
theorem F0v {k f : Nat} (hf : f < 2 ^ 52) : k * 2 ^ 52 ||| f = k * 2 ^ 52 + f := by
 have h := Nat.two_pow_add_eq_or_of_lt (i := 52) (b := f) hf k
 rw [Nat.mul_comm k, h]
theorem b05 {V : View} {s : Sl} {m T : Nat} (hs : e00 V s m) (hm : m < 2 ^ 53) (hb : T = 0 ∨ 2 ^ 52 ≤ m) (hT : T ≤ 2045) :
 a00 prog H08 #[s.v, .int .i64 ((T : Int) - 1074)] V fun v _ => v = .float .f64 (T * 2 ^ 52 + m) := by
 have hlen := hs.len
 have hl2 : s.len ≤ 2 := by
  have : wn m ≤ 2 := J04 (by have : bl m ≤ 53 := I02 hm; omega)
  simp only [wn] at this; omega
 have hl0 := hs.len_zero
 refine a0i s ((T : Int) - 1074) V _ (fun _ x _ => ∃ k y : Nat, x.t6 = (k : Int) - 1 ∧ k ≤ s.len ∧ x.t5 = (y : Int) ∧ y = wval ((dig m).drop k)) (fun _ x _ => (x.t6 + 1).toNat)
  (fun _ x _ => x.t1 = (T : Int) - 1074 ∧ x.t5 = (m : Int)) (fun _ _ _ => 0) ⟨fun h => ?_, fun h => ⟨⟨s.len, 0, ?_, Nat.le_refl _, rfl, ?_⟩, ?_⟩⟩
 · have h : s.len = 0 := by have : (s.len : Int) = 0 := by simpa using h
                            omega
   have m0 := hl0.1 h
   have t0 : T = 0 := by omega
   rw [m0, t0]
 · show i64.wrap ((s.len : Int) - 1) = _
   rw [i64w (by omega) (by omega)]
 · rw [hlen, List.drop_length]; rfl
 rintro ⟨y', i'⟩ V1 l1 ⟨k, y, h1, h2, h3, h4⟩
 dsimp only at h1 h3 ⊢
 subst h1; subst h3
 refine ⟨fun hc => ?_, fun hc => ?_⟩
 · have hc : 1 ≤ k := by have : (k : Int) - 1 ≥ 0 := by simpa using hc
                         omega
   refine ⟨⟨by omega, by omega, hs.isSome (by omega)⟩, _, (hs.le l1).get (by omega) (by omega), ?_, ?_⟩
   · have ek : ((k : Int) - 1).toNat = k - 1 := by omega
     rw [ek]
     have hw := (i02 m).getD (k - 1)
     have hd := c0g (dig m) (i := k - 1) (by omega)
     have ek2 : k - 1 + 1 = k := by omega
     rw [ek2, ← h4] at hd
     have hy : y < 2 ^ 32 := by
      rw [h4]
      have := G0a (l := (dig m).drop k) (fun d hd => i02 m d (List.mem_of_mem_drop hd))
      rw [List.length_drop] at this
      have hk2 : (dig m).length - k ≤ 1 := by omega
      have := Nat.lt_of_lt_of_le this (Nat.pow_le_pow_right (by omega) hk2)
      omega
     refine ⟨k - 1, (dig m).getD (k - 1) 0 + 4294967296 * y, ?_, by omega, G0w hy hw, hd.symm⟩
     show i64.wrap ((k : Int) - 1 - 1) = _
     rw [i64w (by omega) (by omega)]; omega
   · show (i64.wrap ((k : Int) - 1 - 1) + 1).toNat < ((k : Int) - 1 + 1).toNat
     rw [i64w (by omega) (by omega)]; omega
 · have hc : k = 0 := by have : ¬ (k : Int) - 1 ≥ 0 := by simpa using hc
                         omega
   subst hc
   rw [List.drop_zero, o00] at h4
   subst h4
   refine ⟨⟨rfl, rfl⟩, ?_⟩
   rintro ⟨t', x'⟩ V2 l2 ⟨ht, hx⟩
   dsimp only at ht hx ⊢
   subst ht; subst hx
   have lt : 2 ^ 52 ≤ y → ∀ {V : View}, ((decide ((i64.wrap ((T : Int) - 1074 + 1075) : Int) > 2046)) = true → a00 prog u07 #[.int .i64 1] V fun v _ => ∃ r1 : Nat, v = .float .f64 r1 ∧ Value.float .f64 r1 = .float .f64 (T * 2 ^ 52 + y)) ∧
    ((decide ((i64.wrap ((T : Int) - 1074 + 1075) : Int) > 2046)) = false → ∃ e2 : Nat, f02 prog M02 #[.int .u64 (u64.wrap (BitVec.toNat ((BitVec.ofInt u64.bits (u64.wrap ((u64.wrap (i64.wrap ((T : Int) - 1074 + 1075))) * 2 ^ (min (Int.toNat 52) (u64.bits))))) ||| (BitVec.ofInt u64.bits (u64.wrap (BitVec.toNat ((BitVec.ofInt u64.bits (y : Int)) &&& (BitVec.ofInt u64.bits 4503599627370495))))))))] (.float .f64 e2) ∧ Value.float .f64 e2 = .float .f64 (T * 2 ^ 52 + y)) := by
    intro h52 V
    have w0 : i64.wrap ((T : Int) - 1074 + 1075) = ((T + 1 : Nat) : Int) := by rw [i64w (by omega) (by omega)]; omega
    rw [w0]
    refine ⟨fun h => ?_, fun _ => ⟨_, ?_, rfl⟩⟩
    · exfalso
      have : ((T + 1 : Nat) : Int) > 2046 := by simpa using h
      omega
    · have e1 := J09 (x := y) (m := 4503599627370495) (by omega) (by omega)
      have e2 : y &&& 4503599627370495 = y % 2 ^ 52 := Nat.and_two_pow_sub_one_eq_mod y 52
      rw [e2] at e1
      rw [show (((4503599627370495 : Nat)) : Int) = 4503599627370495 from rfl] at e1
      have e3 : (2 : Int) ^ (min (Int.toNat 52) u64.bits) = ((2 ^ 52 : Nat) : Int) := by decide
      rw [e1, b03 (y := T + 1) (by omega), e3, ← Int.natCast_mul, b03 (y := (T + 1) * 2 ^ 52) (by omega), Y0g (by omega) (by omega), F0v (Nat.mod_lt _ (by decide))]
      have e4 : (T + 1) * 2 ^ 52 + y % 2 ^ 52 = T * 2 ^ 52 + y := by omega
      rw [e4]
      exact F03 _
   have small : ¬ 2 ^ 52 ≤ y → ∃ e1 : Nat, f02 prog M02 #[.int .u64 (y : Int)] (.float .f64 e1) ∧ Value.float .f64 e1 = .float .f64 (T * 2 ^ 52 + y) := by
    intro h52
    have t0 : T = 0 := by omega
    exact ⟨y, F03 y, by rw [t0, Nat.zero_mul, Nat.zero_add]⟩
   have c52 : ∀ {b : Bool}, decide (((y : Nat) : Int) < 4503599627370496) = b → (b = false ↔ 2 ^ 52 ≤ y) := by
    intro b hb
    rw [← hb, decide_eq_false_iff_not]; omega
   refine ⟨fun hc => ⟨fun ht => ?_, fun _ => ⟨fun _ => small ?_, fun g => by rw [hc] at g; exact absurd g (by decide)⟩⟩, fun hc => ⟨fun g => by rw [hc] at g; exact absurd g (by decide), fun _ => lt ((c52 rfl).1 hc)⟩⟩
   · exfalso
     have hc : (y : Int) < 4503599627370496 := by simpa using hc
     have ht : (T : Int) - 1074 > -1074 := by simpa using ht
     omega
   · have hc : (y : Int) < 4503599627370496 := by simpa using hc
     omega
theorem e0u {T m : Nat} (hT : T = 2045) (e : m + 1 = 2 ^ 53) : T * 2 ^ 52 + m + 1 = infR := by unfold infR; omega
theorem I0s {T m : Nat} (e : m + 1 = 2 ^ 53) : (T + 1) * 2 ^ 52 + 2 ^ 52 = T * 2 ^ 52 + m + 1 := by omega
theorem J0s : 9218868437227405311 = infR - 1 := by decide
theorem o08 {V : View} {sa sd : Sl} {a d : Nat} (up : Bool) (ha : e00 V sa a) (hd : e00 V sd d) (d0 : 0 < d) (za : bl a ≤ 2 ^ 30) (zd : bl d ≤ 2 ^ 30) :
 a00 prog F0h #[sa.v, sd.v, .bool up] V fun v _ => v = .float .f64 (if up then upK a d else M05 a d) := by
 have hl0 := ha.len_zero
 obtain ⟨K, hK⟩ : ∃ K : Nat, K = 1074 := ⟨_, rfl⟩
 refine A0f sa sd up V _ ⟨fun h => ?_, fun h => ?_⟩
 · have h : sa.len = 0 := by have : (sa.len : Int) = 0 := by simpa using h
                             omega
   rw [hl0.1 h, W0g, a0o]; simp
 have a0 : a ≠ 0 := fun e => by
  have h : ¬ (sa.len : Int) = 0 := by simpa using h
  have := hl0.2 e; omega
 refine (W0e hK ha hd a0 d0 za zd).mono fun v V1 l1 ⟨r, T, m, l, b, hv, hr, hm, hT, hS⟩ => ⟨r, _, _, b, hv, ?_⟩
 have bm : bl m ≤ 53 := I02 hm
 have wm : wn m ≤ 2 ^ 43 := J04 (by omega)
 refine (m01 hr (Nat.le_trans wm (by decide))).mono fun v V2 l2 hv => ⟨_, hv, ?_⟩
 have w0 : i64.wrap (((bl m : Nat) : Int) + ((T : Int) - 1074)) = (bl m : Int) + T - 1074 := by rw [i64w (by omega) (by omega)]; omega
 rw [w0]
 refine ⟨fun hc => ?_, fun hc => ?_⟩
 · have hc : (bl m : Int) + T - 1074 > 1024 := by simpa using hc
   have ov := hS.over d0 (by omega)
   refine ⟨fun hu => a09.mono fun v V3 _ hv => ⟨_, hv, ?_⟩, fun hu => ?_⟩
   · rw [if_pos hu, (IsUp.most' hK d0 ov).unique d0 (E03 d0)]
   · rw [if_neg (by rw [hu]; decide), ← (Q02.most' hK ov).unique d0 (D02 d0), J0s]
 have hc : ¬ (bl m : Int) + T - 1074 > 1024 := by simpa using hc
 have hT5 : T ≤ 2045 := by
  refine Nat.le_of_not_lt fun g => ?_
  have hb : 2 ^ 52 ≤ m := by rcases hS.big with e | e <;> omega
  have : bl m = 53 := g0w hb (by omega)
  omega
 have hr2 := hr.le l2
 have hdown := (hS.isDown hK d0 hm hT5).unique d0 (D02 d0)
 -- one more at the last e04
 have tail : (b = true ∨ l = 1) → ∀ (b1 : Nat) (V4 : View), View.le V2 V4 → View.Fin V4 → V4 b1 = some #[.int .u32 1] → up = true →
  a00 prog f0b #[r.v, (Sl.mk (some (Addr.mk b1 0 none)) 1 1).v] V4 fun v V5 => ∃ r7 : Sl, v = r7.v ∧ a00 prog l05 #[r7.v] V5 fun v V6 => ∃ r8 : Int, v = .int .i64 r8 ∧
   ((decide ((r8 : Int) > 53) = true → a00 prog S07 #[r7.v, .int .i64 1] V6 fun v V7 => ∃ r9 : Sl, v = r9.v ∧ a00 prog l05 #[r9.v] V7 fun v V8 => ∃ r10 : Int, v = .int .i64 r10 ∧
     ((decide ((i64.wrap (r10 + (i64.wrap (((T : Int) - 1074) + 1))) : Int) > 1024) = true → a00 prog u07 #[.int .i64 1] V8 fun v _ => ∃ r11 : Nat, v = .float .f64 r11 ∧ Value.float .f64 r11 = .float .f64 (if up then upK a d else M05 a d)) ∧
      (decide ((i64.wrap (r10 + (i64.wrap (((T : Int) - 1074) + 1))) : Int) > 1024) = false → a00 prog H08 #[r9.v, .int .i64 (i64.wrap (((T : Int) - 1074) + 1))] V8 fun v _ => ∃ r12 : Nat, v = .float .f64 r12 ∧ Value.float .f64 r12 = .float .f64 (if up then upK a d else M05 a d)))) ∧
    (decide ((r8 : Int) > 53) = false → a00 prog l05 #[r7.v] V6 fun v V11 => ∃ r13 : Int, v = .int .i64 r13 ∧
     ((decide ((i64.wrap (r13 + ((T : Int) - 1074)) : Int) > 1024) = true → a00 prog u07 #[.int .i64 1] V11 fun v _ => ∃ r14 : Nat, v = .float .f64 r14 ∧ Value.float .f64 r14 = .float .f64 (if up then upK a d else M05 a d)) ∧
      (decide ((i64.wrap (r13 + ((T : Int) - 1074)) : Int) > 1024) = false → a00 prog H08 #[r7.v, .int .i64 ((T : Int) - 1074)] V11 fun v _ => ∃ r15 : Nat, v = .float .f64 r15 ∧ Value.float .f64 r15 = .float .f64 (if up then upK a d else M05 a d))))) := by
  intro hrest b1 V4 l4 _ hb1 hu
  have hup := (hS.isUp1 hK d0 hm hT5 hrest).unique d0 (E03 d0)
  rw [if_pos hu, ← hup]
  refine (a06 (hr2.le l4) (e00.lit (n := 1) hb1 (by omega) (by omega)) (Nat.le_trans wm (by decide)) (Nat.le_trans a0d (by decide))).mono fun v V5 l5 ⟨r7, hv, h7⟩ => ⟨r7, hv, ?_⟩
  have bm1 : bl (m + 1) ≤ 54 := I02 (by omega)
  have wm1 : wn (m + 1) ≤ 2 ^ 43 := J04 (by omega)
  refine (m01 h7 (Nat.le_trans wm1 (by decide))).mono fun v V6 l6 hv => ⟨_, hv, fun h8 => ?_, fun h8 => ?_⟩
  · have h8 : ((bl (m + 1) : Nat) : Int) > 53 := by simpa using h8
    have e : m + 1 = 2 ^ 53 := by
     refine Classical.byContradiction fun g => ?_
     have := I02 (a := m + 1) (k := 53) (by omega)
     omega
    refine (x03 (n := 1) (h7.le l6) (Nat.le_trans wm1 (by decide)) (by omega)).mono fun v V7 l7 ⟨r9, hv, h9⟩ => ⟨r9, hv, ?_⟩
    have e2 : (m + 1) / 2 ^ 1 = 2 ^ 52 := by rw [e]
    rw [e2] at h9
    have e3 : bl (2 ^ 52) = 53 := by decide
    refine (m01 h9 (Nat.le_trans (J04 (k := 2 ^ 43) (by omega)) (by decide))).mono fun v V8 l8 hv => ⟨_, hv, ?_⟩
    rw [e3]
    have w1 : i64.wrap ((T : Int) - 1074 + 1) = ((T + 1 : Nat) : Int) - 1074 := by rw [i64w (by omega) (by omega)]; omega
    rw [w1]
    have w2 : i64.wrap (((53 : Nat) : Int) + (((T + 1 : Nat) : Int) - 1074)) = (T : Int) - 1020 := by rw [i64w (by omega) (by omega)]; omega
    rw [w2]
    refine ⟨fun g => ?_, fun g => ?_⟩
    · have g : (T : Int) - 1020 > 1024 := by simpa using g
      have t5 : T = 2045 := by omega
      refine a09.mono fun v V9 _ hv => ⟨_, hv, ?_⟩
      rw [e0u t5 e]
    · have g : ¬ (T : Int) - 1020 > 1024 := by simpa using g
      refine (b05 (T := T + 1) (h9.le l8) (by omega) (.inr (Nat.le_refl _)) (by omega)).mono fun v V10 _ hv => ⟨_, hv, ?_⟩
      rw [I0s (T := T) e]
  · have h8 : ¬ ((bl (m + 1) : Nat) : Int) > 53 := by simpa using h8
    refine (m01 (h7.le l6) (Nat.le_trans wm1 (by decide))).mono fun v V11 l11 hv => ⟨_, hv, ?_⟩
    have w2 : i64.wrap (((bl (m + 1) : Nat) : Int) + ((T : Int) - 1074)) = (bl (m + 1) : Int) + T - 1074 := by rw [i64w (by omega) (by omega)]; omega
    rw [w2]
    refine ⟨fun g => ?_, fun g => ?_⟩
    · exfalso
      have g : (bl (m + 1) : Int) + T - 1074 > 1024 := by simpa using g
      omega
    · refine (b05 (T := T) (h7.le (View.le_trans l6 l11)) (Z07 (a := m + 1) (k := 53) (by omega)) (by have := hS.big; omega) hT5).mono fun v V10 _ hv => ⟨_, hv, ?_⟩
      rw [Nat.add_assoc]
 refine ⟨fun hu => ⟨fun h1 b1 V4 l4 f4 hb1 => ?_, fun h1 => ⟨fun h2 b1 V4 l4 f4 hb1 => ?_, fun h2 => ?_⟩⟩, fun hu => ?_⟩
 · have h1 : l = 1 := by have : (l : Int) = 1 := by simpa using h1
                         omega
   exact tail (.inr h1) b1 V4 l4 f4 hb1 hu
 · exact tail (.inl h2) b1 V4 l4 f4 hb1 hu
 · have h1 : ¬ l = 1 := by have : ¬ (l : Int) = 1 := by simpa using h1
                           omega
   have hno : ¬ (b = true ∨ l = 1) := by rw [h2]; simp [h1]
   have hup := (hS.isUp hK d0 hm hT5 hno).unique d0 (E03 d0)
   rw [if_pos hu, ← hup]
   exact (b05 hr2 hm hS.big hT5).mono fun v V24 _ hv => ⟨_, hv, rfl⟩
 · rw [if_neg (by rw [hu]; decide), ← hdown]
   exact (b05 hr2 hm hS.big hT5).mono fun v V25 _ hv => ⟨_, hv, rfl⟩
theorem f0u {r : Nat} (h : r ≤ infR) : (((FloatKind.f64.format.order r 0 != some .eq) = true → 0 < r ∧ Op.negFloat .f64 r = k00 (-(r : Int))) ∧ ((FloatKind.f64.format.order r 0 != some .eq) = false → r = 0)) := by
 have hr63 : r < 2 ^ 63 := by unfold infR at h; omega
 have hok : okW r := ⟨by omega, by rw [Nat.mod_eq_of_lt hr63]; exact h⟩
 have hkey : key r = (r : Int) := b09 hr63
 have k0 : key 0 = 0 := by decide
 have e : (FloatKind.f64.format.order r 0 != some .eq) = !decide ((r : Int) = 0) := by
  show (!(FloatKind.f64.format.order r 0 == some .eq)) = _
  rw [l08 hok (by decide), hkey, k0]
 rw [e]
 refine ⟨fun h1 => ?_, fun h1 => ?_⟩
 · have h1 : r ≠ 0 := fun c => by subst c; simp at h1
   refine ⟨by omega, ?_⟩
   rw [Z04 (by omega), if_pos hr63, S0e (by omega), Nat.add_comm]
 · refine Classical.byContradiction fun c => ?_
   rw [decide_eq_false (by omega)] at h1; simp at h1
theorem X0e {A : Int} {r : Nat} {neg : Bool} (hn : neg = decide (A < 0)) (h : r ≤ infR) {Q : Value → Prop} (k : Q (.float .f64 (k00 (if 0 ≤ A then (r : Int) else -(r : Int))))) :
 ((neg = true → ((FloatKind.f64.format.order r 0 != some .eq) = true → Q (.float .f64 (Op.negFloat .f64 r))) ∧ ((FloatKind.f64.format.order r 0 != some .eq) = false → Q (.float .f64 r))) ∧ (neg = false → Q (.float .f64 r))) := by
 have nw := f0u h
 refine ⟨fun hc => ⟨fun h1 => ?_, fun h1 => ?_⟩, fun hc => ?_⟩
 · have hA : ¬ 0 ≤ A := by rw [hn, decide_eq_true_iff] at hc; omega
   rw [if_neg hA] at k; rw [(nw.1 h1).2]; exact k
 · have hA : ¬ 0 ≤ A := by rw [hn, decide_eq_true_iff] at hc; omega
   rw [if_neg hA] at k
   have r0 := nw.2 h1
   subst r0; exact k
 · have hA : 0 ≤ A := by rw [hn, decide_eq_false_iff_not] at hc; omega
   rw [if_pos hA, J02] at k; exact k
theorem k02 {V : View} {x : NumV} {z : Cq} (hx : QAt V x z) (hz : z.sz ≤ 2 ^ 30) : a00 prog I03 #[x.val] V fun v _ => v = .float .f64 (k00 (l00 z.re)) := by
 have zA := z.szA; have zD := z.szD
 have hn := hx.re.1
 have d0 : 0 < z.D := by have := z.canon.rep.pos; omega
 refine c0i x V _ ((o08 x.re.neg hx.re.2 hx.under d0 (by omega) (by omega)).mono fun v V1 _ hv => ⟨_, hv, ?_⟩)
 have hle : (if x.re.neg = true then upK z.A.natAbs z.D else M05 z.A.natAbs z.D) ≤ infR := by
  split
  · exact (E03 d0).le
  · exact Nat.le_of_lt (D02 d0).lt
 refine X0e (Q := fun v => v = .float .f64 (k00 (l00 z.re))) hn hle ?_
 congr 2
 unfold l00
 rw [← b0j z, ← d0u z]
 by_cases c : 0 ≤ z.A
 · rw [if_pos c, if_pos ((d09 z).1 c), hn, decide_eq_false (by omega)]; rfl
 · rw [if_neg c, if_neg (fun g => c ((d09 z).2 g)), hn, decide_eq_true (by omega)]; rfl
theorem K01 {V : View} {x : NumV} {z : Cq} (hx : QAt V x z) (hz : z.sz ≤ 2 ^ 30) : a00 prog J03 #[x.val] V fun v _ => v = .float .f64 (k00 (H00 z.re)) := by
 have zA := z.szA; have zD := z.szD
 have hn := hx.re.1
 have d0 : 0 < z.D := by have := z.canon.rep.pos; omega
 refine d0i x V _ ((o08 (!x.re.neg) hx.re.2 hx.under d0 (by omega) (by omega)).mono fun v V1 _ hv => ⟨_, hv, ?_⟩)
 have hle : (if (!x.re.neg) = true then upK z.A.natAbs z.D else M05 z.A.natAbs z.D) ≤ infR := by
  split
  · exact (E03 d0).le
  · exact Nat.le_of_lt (D02 d0).lt
 refine X0e (Q := fun v => v = .float .f64 (k00 (H00 z.re))) hn hle ?_
 congr 2
 unfold H00
 rw [← b0j z, ← d0u z]
 by_cases c : 0 ≤ z.A
 · rw [if_pos c, if_pos ((d09 z).1 c), hn, decide_eq_false (by omega)]; rfl
 · rw [if_neg c, if_neg (fun g => c ((d09 z).2 g)), hn, decide_eq_true (by omega)]; rfl
theorem y0d {V : View} {x : Nat} (h : x < 2 ^ 64) : a00 prog H0h #[.float .f64 x] V fun v _ => v = .bool (decide (x % 2 ^ 63 < infR)) := by
 refine B0f x V _ ⟨x, a05 x, ?_⟩
 have hp52 : (2 : Int) ^ (min (Int.toNat 52) u64.bits) = ((2 ^ 52 : Nat) : Int) := by decide
 have e := J09 (x := x / 2 ^ 52) (m := 2047) (by omega) (by omega)
 have e1 : x / 2 ^ 52 &&& 2047 = fld x := Nat.and_two_pow_sub_one_eq_mod (x / 2 ^ 52) 11
 rw [e1] at e
 rw [hp52, J0b]
 rw [show (((2047 : Nat)) : Int) = 2047 from rfl] at e
 rw [e]
 congr 1
 have hf : fld x = 2047 ↔ ¬ x % 2 ^ 63 < infR := by unfold fld infR; omega
 by_cases c : fld x = 2047
 · have := hf.1 c
   rw [c, decide_eq_false this]; rfl
 · have h2 : x % 2 ^ 63 < infR := Classical.byContradiction fun g => c (hf.2 g)
   rw [decide_eq_true h2]
   have : ((fld x : Nat) : Int) ≠ 2047 := by omega
   simp [this]
