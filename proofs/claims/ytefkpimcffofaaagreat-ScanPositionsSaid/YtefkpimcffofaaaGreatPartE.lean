/- Part of the proof; it has the parts CR4 CBx8 CRb6 CSc3 CSl1 CSl2 COpen7 CSl3 CSl4. -/
import Derived.Test.YtefkpimcffofaaaGreatPartD
import Derived.Laws.StructEq
namespace Go.Proofs.YtefkpimcffofaaaGreat
open Go Go.Vc Go.Proofs
theorem ref1_NatGcd_spec {V : View} {s t : Sl} {a b : Nat} (hs : NatAt V s a) (ht : NatAt V t b) (ha : wn a ≤ 2 ^ 43) (hb : wn b ≤ 2 ^ 43) :
 CallV Tryz.prog n_ref1_NatGcd #[s.v, t.v] V fun v V' => ∃ r : Sl, v = r.v ∧ NatAt V' r (Nat.gcd a b) := by
 refine ref1_NatGcd_vc s t V _ (fun _ x V' => ∃ a' b', NatAt V' x.t0 a' ∧ NatAt V' x.t1 b' ∧ wn a' ≤ 2 ^ 43 ∧ wn b' ≤ 2 ^ 43 ∧ Nat.gcd a' b' = Nat.gcd a b) (fun _ x V' => natVal V' x.t1) ⟨⟨a, b, hs, ht, ha, hb, rfl⟩, ?_⟩
 rintro ⟨x, y⟩ V1 l1 ⟨a', b', hx, hy, wa, wb, hg⟩
 simp only at hx hy ⊢
 have hyl := hy.len
 refine ⟨fun hp => ?_, fun hp => ?_⟩
 · simp only [gt_iff_lt, decide_eq_true_eq] at hp
   have hb0 : b' ≠ 0 := fun e => by rw [← hy.len_zero] at e; omega
   refine (ref1_NatDiv_spec hx hy wa hb0).mono fun v V2 l2 ⟨q, r, hv, hq, hr⟩ => ⟨q, r, hv, ?_⟩
   have hlt : a' % b' < b' := Nat.mod_lt _ (by omega)
   have hwr : wn (a' % b') ≤ wn b' := wn_mono (Nat.le_of_lt hlt)
   refine ⟨⟨b', a' % b', hy.le l2, hr, wb, by omega, ?_⟩, ?_⟩
   · rw [Nat.gcd_comm, ← Nat.gcd_rec, Nat.gcd_comm]; exact hg
   · rw [natVal_eq hr, natVal_eq hy]; exact hlt
 · simp only [gt_iff_lt, decide_eq_false_iff_not] at hp
   have hb0 : b' = 0 := hy.len_zero.1 (by omega)
   subst hb0
   rw [Nat.gcd_zero_right] at hg
   exact ⟨x, rfl, by rw [← hg]; exact hx⟩
theorem ref1_signed_spec {V : View} {s : Sl} {n : Nat} (neg : Bool) (h : NatAt V s n) :
 CallV Tryz.prog n_ref1_signed #[.bool neg, s.v] V fun v V' => ∃ r : WhV, v = r.val ∧ IntAt V' r (if neg = true then -(n : Int) else n) := by
 have hl := h.len_zero
 refine ref1_signed_vc neg s V _ ⟨fun hn => ⟨_, rfl, ?_, ?_⟩, fun hn => ⟨_, rfl, ?_, ?_⟩⟩
 · rw [if_pos hn]; simp only [gt_iff_lt, decide_eq_decide]; omega
 · rw [if_pos hn]; simpa using h
 · rw [if_neg (by simp [hn])]; symm; simp only [decide_eq_false_iff_not]; omega
 · rw [if_neg (by simp [hn])]; simpa using h
theorem ref1_IntOf_spec {V : View} {n : Int} (h0 : -9223372036854775808 ≤ n) (h1 : n ≤ 9223372036854775807) :
 CallV Tryz.prog n_ref1_IntOf #[.int .i64 n] V fun v V' => ∃ r : WhV, v = r.val ∧ IntAt V' r n := by
 refine ref1_IntOf_vc n V _ ⟨fun hn => ?_, fun hn => ?_⟩
 · simp only [decide_eq_true_eq] at hn
   have e : IntKind.u64.wrap (IntKind.i64.wrap (0 - n)) = -n := by
    by_cases hm : n = -9223372036854775808
    · subst hm; decide
    · rw [i64w (by omega) (by omega), u64w (by omega) (by omega)]; omega
   rw [e]
   refine (ref1_NatOf_spec (by omega) (by omega)).mono fun v V1 _ ⟨r, hv, hr⟩ => ⟨r, hv, _, rfl, by simp [hn], ?_⟩
   have e2 : n.natAbs = (-n).toNat := by omega
   rw [e2]; exact hr
 · simp only [decide_eq_false_iff_not] at hn
   rw [u64w (by omega) (by omega)]
   refine (ref1_NatOf_spec (by omega) (by omega)).mono fun v V1 _ ⟨r, hv, hr⟩ => ⟨r, hv, _, rfl, by simp [hn], ?_⟩
   have e2 : n.natAbs = n.toNat := by omega
   rw [e2]; exact hr
theorem ref1_IntNeg_spec {V : View} {x : WhV} {a : Int} (h : IntAt V x a) :
 CallV Tryz.prog n_ref1_IntNeg #[x.val] V fun v V' => ∃ r : WhV, v = r.val ∧ IntAt V' r (-a) := by
 refine ref1_IntNeg_vc x V _ ((ref1_signed_spec (!x.neg) h.2).mono fun v V1 _ ⟨r, hv, hr⟩ => ⟨r, hv, r, rfl, ?_⟩)
 have e : (if (!x.neg) = true then -(a.natAbs : Int) else (a.natAbs : Int)) = -a := by
  rw [h.1]; simp only [Bool.not_eq_true', decide_eq_false_iff_not]; split <;> omega
 rw [e] at hr; exact hr
theorem dig_one : dig 1 = [1] := by rw [dig_pos (by omega)]; simp [dig_zero]
theorem ref1_Make_spec {V : View} {x y : WhV} {s : Sl} {z : Cq} {a b : Int} {d : Nat} (hx : IntAt V x a) (hy : IntAt V y b) (hs : NatAt V s d) (hz : Rep z a b d) (ha : wn a.natAbs ≤ 2 ^ 43) (hb : wn b.natAbs ≤ 2 ^ 43) (hd : wn d ≤ 2 ^ 43) :
 CallV Tryz.prog n_ref1_Make #[x.val, y.val, s.v] V fun v V' => ∃ r : NumV, v = r.val ∧ QAt V' r z := by
 obtain ⟨e1, e2, e3⟩ := hz.eqs
 have hp := gcd3_pos a b hz.pos
 have d1 := gcd3_dvd1 a b d
 have d2 := gcd3_dvd2 a b d
 have d3 := gcd3_dvd3 a b d
 refine ref1_Make_vc x y s V _ ((ref1_NatGcd_spec hx.2 hy.2 ha hb).mono fun v V1 l1 ⟨r1, hv, h1⟩ => ⟨r1, hv, ?_⟩)
 have hw1 : wn (Nat.gcd a.natAbs b.natAbs) ≤ 2 ^ 43 := by
  rcases Nat.eq_zero_or_pos a.natAbs with h | h
  · rw [h, Nat.gcd_zero_left]; exact hb
  · exact Nat.le_trans (wn_mono (Nat.le_of_dvd h (Nat.gcd_dvd_left _ _))) ha
 refine (ref1_NatGcd_spec h1 (hs.le l1) hw1 hd).mono fun v V2 l2 ⟨r2, hv, h2⟩ => ⟨r2, hv, ?_⟩
 have hg : Nat.gcd (Nat.gcd a.natAbs b.natAbs) d = gcd3 a b d := rfl
 rw [hg] at h2
 have l02 := View.le_trans l1 l2
 have h2l := h2.len
 have many : gcd3 a b d ≠ 1 → CallV Tryz.prog n_ref1_NatDiv #[x.mag.v, r2.v] V2 fun v V8 => ∃ (r11 : Sl) (r12 : Sl), v = .tuple #[r11.v, r12.v] ∧
  CallV Tryz.prog n_ref1_NatDiv #[y.mag.v, r2.v] V8 fun v V9 => ∃ (r13 : Sl) (r14 : Sl), v = .tuple #[r13.v, r14.v] ∧
  CallV Tryz.prog n_ref1_NatDiv #[s.v, r2.v] V9 fun v V10 => ∃ (r15 : Sl) (r16 : Sl), v = .tuple #[r15.v, r16.v] ∧
  CallV Tryz.prog n_ref1_signed #[.bool x.neg, r11.v] V10 fun v V11 => ∃ r17 : WhV, v = r17.val ∧
  CallV Tryz.prog n_ref1_signed #[.bool y.neg, r13.v] V11 fun v V12 => ∃ r18 : WhV, v = r18.val ∧ ∃ r : NumV, (NumV.mk r17 r18 r15).val = r.val ∧ QAt V12 r z := by
  intro _
  refine (ref1_NatDiv_spec (hx.2.le l02) h2 ha (by omega)).mono fun v V4 l4 ⟨q1, m1, hv, hq1, _⟩ => ⟨q1, m1, hv, ?_⟩
  refine (ref1_NatDiv_spec (hy.2.le (View.le_trans l02 l4)) (h2.le l4) hb (by omega)).mono fun v V5 l5 ⟨q2, m2, hv, hq2, _⟩ => ⟨q2, m2, hv, ?_⟩
  have l45 := View.le_trans l4 l5
  refine (ref1_NatDiv_spec (hs.le (View.le_trans l02 l45)) (h2.le l45) hd (by omega)).mono fun v V6 l6 ⟨q3, m3, hv, hq3, _⟩ => ⟨q3, m3, hv, ?_⟩
  refine (ref1_signed_spec x.neg (hq1.le (View.le_trans l5 l6))).mono fun v V7 l7 ⟨w1, hv, hw1⟩ => ⟨w1, hv, ?_⟩
  refine (ref1_signed_spec y.neg (hq2.le (View.le_trans l6 l7))).mono fun v V8 l8 ⟨w2, hv, hw2⟩ => ⟨w2, hv, _, rfl, ?_, ?_, ?_⟩
  · rw [e1]
    have e : (if x.neg = true then -((a.natAbs / gcd3 a b d : Nat) : Int) else ((a.natAbs / gcd3 a b d : Nat) : Int)) = a / (gcd3 a b d : Nat) := by
     have k1 := natAbs_div d1
     have k2 := div_lt_zero d1 hp
     rw [← k1, hx.1]
     have k3 : (a / (gcd3 a b d : Nat) < 0) ↔ a < 0 := by simpa using k2
     simp only [decide_eq_true_eq]
     split <;> omega
    rw [e] at hw1; exact hw1.le l8
  · rw [e2]
    have e : (if y.neg = true then -((b.natAbs / gcd3 a b d : Nat) : Int) else ((b.natAbs / gcd3 a b d : Nat) : Int)) = b / (gcd3 a b d : Nat) := by
     have k1 := natAbs_div d2
     have k2 := div_lt_zero d2 hp
     rw [← k1, hy.1]
     have k3 : (b / (gcd3 a b d : Nat) < 0) ↔ b < 0 := by simpa using k2
     simp only [decide_eq_true_eq]
     split <;> omega
    rw [e] at hw2; exact hw2
  · rw [e3]; exact hq3.le (View.le_trans l7 l8)
 refine ⟨fun hn => ?_, fun hn => ⟨fun h => absurd h (by simp), fun _ => ?_⟩⟩
 · have hn : r2.len = 1 := by have : (r2.len : Int) = 1 := (by simpa using hn); omega
   refine ⟨⟨by omega, by omega, h2.isSome (by omega)⟩, _, h2.get (by omega) (by omega), fun hw => ?_, fun hw => ?_⟩
   · have hw : (dig (gcd3 a b d)).getD 0 0 = 1 := by have : (((dig (gcd3 a b d)).getD 0 0 : Nat) : Int) = 1 := of_decide_eq_true (by rw [← hw]; rfl); omega
     have hg1 : gcd3 a b d = 1 := by
      rw [hn] at h2l
      have h3 := wval_dig (gcd3 a b d)
      obtain ⟨w, hw'⟩ : ∃ w, dig (gcd3 a b d) = [w] := List.length_eq_one_iff.1 h2l.symm
      rw [hw'] at hw h3
      simp [wval] at hw h3
      omega
     rw [hg1] at e1 e2 e3
     simp only [Int.natCast_one, Int.ediv_one] at e1 e2
     rw [Nat.div_one] at e3
     exact ⟨_, rfl, by rw [e1]; exact hx.le l02, by rw [e2]; exact hy.le l02, by rw [e3]; exact hs.le l02⟩
   · refine many fun h => ?_
     rw [h, dig_one] at hw; simp at hw
 · refine many fun h => ?_
   rw [h, dig_one] at h2l
   rw [h2l] at hn; simp at hn
theorem ref1_New_spec {V : View} {p q d : Int} (p0 : -9223372036854775808 ≤ p) (p1 : p ≤ 9223372036854775807) (q0 : -9223372036854775808 ≤ q) (q1 : q ≤ 9223372036854775807) (d0 : -9223372036854775808 ≤ d) (d1 : d ≤ 9223372036854775807) (hd : d ≠ 0) :
 CallV Tryz.prog n_ref1_New #[.int .i64 p, .int .i64 q, .int .i64 d] V fun v V' => ∃ r : NumV, v = .tuple #[r.val, .int .i64 0] ∧ QAt V' r ⟨(p : Rat) / (d : Rat), (q : Rat) / (d : Rat)⟩ := by
 refine ref1_New_vc p q d V _ ⟨fun h => ?_, fun _ => ?_⟩
 · exact absurd (by simpa using h) hd
 refine (ref1_IntOf_spec d0 d1).mono fun v V1 l1 ⟨c, hv, hc⟩ => ⟨c, hv, ?_⟩
 refine (ref1_IntOf_spec p0 p1).mono fun v V2 l2 ⟨a, hv, ha⟩ => ⟨a, hv, ?_⟩
 refine (ref1_IntOf_spec q0 q1).mono fun v V3 l3 ⟨b, hv, hb⟩ => ⟨b, hv, fun hn => ?_, fun hn => ?_⟩
 · have hneg : d < 0 := by have := hc.1; rw [hn] at this; simpa using this.symm
   refine (ref1_IntNeg_spec (ha.le l3)).mono fun v V4 l4 ⟨a', hv, ha'⟩ => ⟨a', hv, ?_⟩
   refine (ref1_IntNeg_spec (hb.le l4)).mono fun v V5 l5 ⟨b', hv, hb'⟩ => ⟨b', hv, ?_⟩
   refine (ref1_Make_spec (ha'.le l5) hb' (hc.2.le (View.le_trans l2 (View.le_trans l3 (View.le_trans l4 l5)))) ?_ (wn64 (by omega)) (wn64 (by omega)) (wn64 (by omega))).mono fun v V6 l6 ⟨r, hv, hr⟩ => ⟨r, hv, r, rfl, hr⟩
   have e : ((d.natAbs : Nat) : Rat) = -(d : Rat) := by
    have : (d.natAbs : Int) = -d := by omega
    rw [← Rat.intCast_natCast, this]; push_cast; rfl
   refine ⟨by omega, ?_, ?_⟩ <;> (simp only [e]; push_cast; rw [Rat.div_def, Rat.div_def]; grind)
 · have hpos : ¬ d < 0 := by have := hc.1; rw [hn] at this; simpa using this.symm
   refine (ref1_Make_spec (ha.le l3) hb (hc.2.le (View.le_trans l2 l3)) ?_ (wn64 (by omega)) (wn64 (by omega)) (wn64 (by omega))).mono fun v V6 l6 ⟨r, hv, hr⟩ => ⟨r, hv, r, rfl, hr⟩
   have e : ((d.natAbs : Nat) : Rat) = (d : Rat) := by
    have : (d.natAbs : Int) = d := by omega
    rw [← Rat.intCast_natCast, this]
   refine ⟨by omega, ?_, ?_⟩ <;> simp only [e]

theorem ratQ_size {r : RatV} (h : ratI r) : (ratQ r).sz ≤ 64 := by
 obtain ⟨⟨a, b⟩, ⟨c, d⟩, e, f⟩ := h
 have key : Rep (ratQ r) (if r.den < 0 then -r.re else r.re) (if r.den < 0 then -r.im else r.im) (if r.den = 0 then 1 else r.den.natAbs) := by
  unfold ratQ
  split
  · rename_i h0
    have : ¬ r.den < 0 := by omega
    rw [if_neg this, if_neg this]
    refine ⟨by omega, ?_, ?_⟩ <;> simp only [] <;> rw [Rat.div_def] <;> simp <;> grind
  · by_cases hn : r.den < 0
    · rw [if_pos hn, if_pos hn]
      have hd : (r.den : Rat) ≠ 0 := by
       intro e0
       have := Rat.intCast_inj.1 (e0.trans Rat.intCast_zero.symm)
       omega
      have e : ((r.den.natAbs : Nat) : Rat) = -(r.den : Rat) := by
       have e1 : ((r.den.natAbs : Nat) : Rat) = (((r.den.natAbs : Nat) : Int) : Rat) := rfl
       have e2 : ((r.den.natAbs : Nat) : Int) = -r.den := by omega
       rw [e1, e2, Rat.intCast_neg]
      refine ⟨by omega, ?_, ?_⟩ <;> simp only [e, Rat.intCast_neg] <;> grind
    · rw [if_neg hn, if_neg hn]
      have e : ((r.den.natAbs : Nat) : Rat) = (r.den : Rat) := by
       have e2 : ((r.den.natAbs : Nat) : Int) = r.den := by omega
       conv => rhs; rw [← e2]
       rfl
      exact ⟨by omega, by simp only [e], by simp only [e]⟩
 refine key.sz ?_ ?_ ?_
 · exact bl_le_of_lt (by split <;> omega)
 · exact bl_le_of_lt (by split <;> omega)
 · exact bl_le_of_lt (by split <;> omega)

theorem ref1_Of_spec2 {V : View} {r : RatV} (h : ratI r) : CallV Tryz.prog n_ref1_Of #[r.val] V fun v V' => ∃ x : NumV, v = x.val ∧ QAt V' x (ratQ r) := by
 obtain ⟨⟨a1, a2⟩, ⟨b1, b2⟩, ⟨c1, c2⟩⟩ := h
 refine ref1_Of_vc r V _ ⟨fun hd => ?_, fun hd => ?_⟩
 · have hd : r.den = 0 := by simpa using hd
   refine (ref1_New_spec a1 a2 b1 b2 (by omega) (by omega) (by omega)).mono fun v V1 _ ⟨x, hv, hx⟩ => ⟨x, 0, hv, x, rfl, ?_⟩
   have e : ratQ r = ⟨((r.re : Int) : Rat) / ((1 : Int) : Rat), ((r.im : Int) : Rat) / ((1 : Int) : Rat)⟩ := by
    unfold ratQ; rw [if_pos hd]
    exact Cq.ext' (by simp only []; grind) (by simp only []; grind)
   rw [e]; exact hx
 · have hd : r.den ≠ 0 := by simpa using hd
   refine (ref1_New_spec a1 a2 b1 b2 c1 c2 hd).mono fun v V1 _ ⟨x, hv, hx⟩ => ⟨x, 0, hv, x, rfl, ?_⟩
   have e : ratQ r = ⟨((r.re : Int) : Rat) / ((r.den : Int) : Rat), ((r.im : Int) : Rat) / ((r.den : Int) : Rat)⟩ := by
    unfold ratQ; rw [if_neg hd]
   rw [e]; exact hx

theorem part_spec {V : View} {a b c : NumV} {x y z : Cq} {S : Nat} (ha : NumAt V a x) (hb : NumAt V b y) (hc : NumAt V c z) (sx : x.sz ≤ S) (sy : y.sz ≤ S) (sz : z.sz ≤ S) (hS : S ≤ 2 ^ 30) :
 CallV Tryz.prog n_scan_part #[a.val, b.val, c.val] V fun v V' => ∃ r : NumV, v = r.val ∧ NumAt V' r (partQ2 x y z) := by
 have s1 := Cq.sz_sub x y; have s2 := Cq.sz_sub z y
 refine scan_part_vc a b c V _ ((Num_Sub_spec ha hb (by omega) (by omega)).mono fun v V1 l1 ⟨r1, hv, h1⟩ => ⟨r1, hv, ?_⟩)
 refine (Num_Sub_spec (hc.le l1) (hb.le l1) (by omega) (by omega)).mono fun v V2 l2 ⟨r2, hv, h2⟩ => ⟨r2, hv, ?_⟩
 refine (Num_Div_spec (h1.le l2) h2 (by omega) (by omega)).mono fun v V3 l3 ⟨r3, e, hv, hz, hn⟩ => ⟨r3, e, hv, r3, rfl, ?_⟩
 by_cases g : z - y = Cq.zero
 · have e1 : partQ2 x y z = Cq.zero := by
     unfold partQ2; rw [g]
     refine Cq.ext' ?_ ?_ <;> simp only [Cq.div, Cq.norm, Cq.zero, Rat.mul_zero, Rat.add_zero, Rat.div_def, Rat.inv_zero]
   rw [e1]; exact (hz g).2
 · exact (hn g).2
theorem between_spec {V : View} {a b c : NumV} {x y z : Cq} {S : Nat} (ha : NumAt V a x) (hb : NumAt V b y) (hc : NumAt V c z) (sx : x.sz ≤ S) (sy : y.sz ≤ S) (sz : z.sz ≤ S) (hS : S ≤ 2 ^ 34) :
 CallV Tryz.prog n_scan_between #[a.val, b.val, c.val] V fun v V' => ∃ r : NumV, v = r.val ∧ NumAt V' r (betweenQ x y z) := by
 have s1 := Cq.sz_sub y x; have s2 := Cq.sz_mul z (y - x)
 refine scan_between_vc a b c V _ ((Num_Sub_spec hb ha (by omega) (by omega)).mono fun v V1 l1 ⟨r1, hv, h1⟩ => ⟨r1, hv, ?_⟩)
 refine (Num_Mul_spec (hc.le l1) h1 (by omega) (by omega)).mono fun v V2 l2 ⟨r2, hv, h2⟩ => ⟨r2, hv, ?_⟩
 exact (Num_Add_spec (ha.le (View.le_trans l1 l2)) h2 (by omega) (by omega)).mono fun v V3 l3 ⟨r3, hv, h3⟩ => ⟨r3, hv, r3, rfl, h3⟩
theorem checked1_spec {V : View} {s : Sl} {l : List Tk} (h : TicksAt V s l) {p : Option Addr} (hp : V.load p = some s.v) {t : Nat} {k : Tk} (hk : l[t]? = some k) :
 CallV Tryz.prog n_scan_checked_1 #[.int .i64 (t : Int), .pointer p] V fun v V' => ∃ r : NumV, v = .tuple #[r.val, .bool (decide (k.place.im = 0))] ∧ NumAt V' r k.time := by
 obtain ⟨g, y, hy, _, hs, ⟨h1, g1⟩, h2, g2⟩ := ticks_get h (t := (t : Int)) (by omega) (k := k) (by rw [Int.toNat_natCast]; exact hk)
 refine scan_checked_1_vc (t : Int) p V _ ⟨s, hp, g, hs, y.time, h1, g1, s, hp, g, hs, y.place, h2, g2, ?_⟩
 exact (Num_Real_spec hy.place).mono fun v V1 l1 hv => ⟨_, hv, _, rfl, hy.time.le l1⟩
theorem ascending_spec {V : View} {s : Sl} {l : List Tk} (h : TicksAt V s l) {S : Nat} (hz : ∀ k ∈ l, k.szle S) (hS : S ≤ 2 ^ 30) {p : Option Addr} (hp : V.load p = some s.v) :
 CallV Tryz.prog n_scan_ascending #[.int .i64 (s.len : Int), (Fn1.mk p).val n_scan_checked_1] V fun v _ => ∃ r : Int, v = .int .i64 r ∧ r = tickE l := by
 have hl : s.len = l.length := h.len
 refine scan_ascending__scan_checked_1_vc (s.len : Int) ⟨p⟩ V _ (fun _ _ _ => 1 ≤ l.length ∧ l.length ≤ 4096)
  (fun _ x V' => ∃ t : Nat, x.t16 = t ∧ t ≤ l.length ∧ (∀ k, prevA l t = some k → NumAt V' x.o5 k.time ∧ k.time.im = 0) ∧ ascF none l = ascF ((prevA l t).map fun k => k.time.re) (l.drop t)) (fun _ x _ => l.length - x.t16.toNat) ?_
 rw [hl]
 refine ⟨⟨fun h0 => ⟨_, rfl, ?_⟩, fun h0 => ⟨fun h1 => ⟨_, rfl, ?_⟩, fun h1 => ?_⟩⟩, ?_⟩
 · unfold tickE; rw [if_pos (.inl (by simpa using h0))]
 · unfold tickE; rw [if_pos (.inr (by simp at h1; omega))]
 · have h0 : l.length ≠ 0 := by simpa using h0
   exact ⟨by omega, by simp at h1; omega⟩
 rintro ⟨u⟩ V1 l1 ⟨hn1, hn2⟩
 refine ⟨⟨0, rfl, by omega, fun k hk => by simp [prevA] at hk, rfl⟩, ?_⟩
 rw [tickE_len hn1 hn2]
 rintro ⟨t16, o5⟩ V2 l2 ⟨t, et, ht, ho, hE⟩
 dsimp only at et ho ⊢
 subst et
 have L2 := View.le_trans l1 l2
 refine ⟨fun hlt => ?_, fun hge => ⟨_, rfl, ?_⟩⟩
 · have hk : t < l.length := by simp at hlt; omega
   have ek : l[t]? = some l[t] := List.getElem?_eq_getElem hk
   have hmem : l[t] ∈ l := List.getElem_mem hk
   obtain ⟨zt, zp⟩ := hz _ hmem
   rw [drop_at ek] at hE
   generalize hkk : l[t] = k at *
   refine (checked1_spec (h.le L2) (View.load_le L2 hp) ek).mono fun v V3 l3 ⟨r1, hv, h1⟩ => ⟨r1, _, hv, fun c => ⟨_, rfl, ?_⟩, fun c => ?_⟩
   · have c : ¬ k.place.im = 0 := by simpa using c
     rw [hE]; unfold ascF; rw [if_pos (by unfold Tk.real; simp [c])]
   have c : k.place.im = 0 := by simpa using c
   refine (Num_Real_spec h1).mono fun v V4 l4 hv => ⟨_, hv, fun d => ⟨_, rfl, ?_⟩, fun d => ?_⟩
   · have d : ¬ k.time.im = 0 := by simpa using d
     rw [hE]; unfold ascF; rw [if_pos (by unfold Tk.real; simp [d])]
   have d : k.time.im = 0 := by simpa using d
   have hr : ¬ k.real = false := by unfold Tk.real; simp [c, d]
   have step : ∀ V', View.le V4 V' → (∀ q, prevA l t = some q → ¬ k.time.re ≤ q.time.re) → (∃ t' : Nat, IntKind.i64.wrap ((t : Int) + 1) = t' ∧ t' ≤ l.length ∧ (∀ k, prevA l t' = some k → NumAt V' r1 k.time ∧ k.time.im = 0) ∧ ascF none l = ascF ((prevA l t').map fun k => k.time.re) (l.drop t')) ∧ l.length - (IntKind.i64.wrap ((t : Int) + 1)).toNat < l.length - (t : Int).toNat := by
    intro V' l' hq
    rw [i64w (by omega) (by omega)]
    refine ⟨⟨t + 1, by omega, by omega, ?_, ?_⟩, by omega⟩
    · intro k' hk'
      rw [prevA_succ, ek] at hk'
      obtain rfl := Option.some.inj hk'
      exact ⟨h1.le (View.le_trans l4 l'), d⟩
    · rw [hE, prevA_succ, ek]
      conv => lhs; unfold ascF
      rw [if_neg hr]
      cases hpa : prevA l t with
      | none => rfl
      | some q =>
        simp only [Option.map_some]
        rw [if_neg (hq q hpa)]
   refine ⟨fun c0 => ?_, fun c0 => step V4 (View.le_refl _) fun q hq => ?_⟩
   · have hpos : 0 < t := by simp at c0; omega
     have ep : l[t - 1]? = some l[t - 1] := List.getElem?_eq_getElem (by omega)
     have hpa : prevA l t = some l[t - 1] := by unfold prevA; rw [if_neg (by omega), ep]
     obtain ⟨ho1, ho2⟩ := ho _ hpa
     have zq := (hz _ (List.getElem_mem (show t - 1 < l.length by omega))).1
     generalize l[t - 1] = q at *
     refine (Num_Cmp_spec (h1.le l4) (ho1.le (View.le_trans l3 l4)) (by omega) (by omega)).mono fun v V5 l5 hv => ⟨_, hv, fun e => ⟨_, rfl, ?_⟩, fun e => step V5 l5 fun q' hq' => ?_⟩
     · rw [cmp_real d ho2] at e
       have e : k.time.re ≤ q.time.re := by
        rcases cmpR_val k.time.re q.time.re with ⟨g, _⟩ | ⟨g, _⟩ | ⟨_, g⟩
        · grind
        · grind
        · rw [g] at e; simp at e
       rw [hE, hpa]
       conv => rhs; unfold ascF
       rw [if_neg hr]
       simp only [Option.map_some]
       rw [if_pos e]
     · rw [hpa] at hq'
       obtain rfl := Option.some.inj hq'
       rw [cmp_real d ho2] at e
       rcases cmpR_val k.time.re q.time.re with ⟨_, g⟩ | ⟨_, g⟩ | ⟨g, _⟩
       · rw [g] at e; simp at e
       · rw [g] at e; simp at e
       · grind
   · have : t = 0 := by simp at c0; omega
     subst this
     simp [prevA] at hq
 · have e : t = l.length := by simp at hge; omega
   subst e
   rw [hE, List.drop_length]; rfl
theorem checked_spec {V : View} {s : Sl} {l : List Tk} (h : TicksAt V s l) {S : Nat} (hz : ∀ k ∈ l, k.szle S) (hS : S ≤ 2 ^ 30) :
 CallV Tryz.prog n_scan_checked #[s.v] V fun v _ => ∃ r : Int, v = .int .i64 r ∧ r = tickE l := by
 refine scan_checked_vc s V _ fun b1 V1 l1 hb1 => ?_
 have hld : V1.load (some (Addr.mk b1 0 none)) = some s.v := by simp [View.load, hb1]
 exact ⟨s, hld, (ascending_spec (h.le l1) hz hS hld).mono fun v V2 l2 ⟨r, hv, hr⟩ => ⟨r, hv, r, rfl, hr⟩⟩
theorem cmp_small (z w : Cq) : -1 ≤ z.cmp w ∧ z.cmp w ≤ 1 := by
 unfold Cq.cmp
 split
 · rcases cmpR_val z.re w.re with ⟨_, g⟩ | ⟨_, g⟩ | ⟨_, g⟩ <;> rw [g] <;> decide
 · rcases cmpR_val z.im w.im with ⟨_, g⟩ | ⟨_, g⟩ | ⟨_, g⟩ <;> rw [g] <;> decide
theorem mul_small {a b : Int} (ha : -1 ≤ a ∧ a ≤ 1) (hb : -1 ≤ b ∧ b ≤ 1) : IntKind.i64.wrap (a * b) = a * b := by
 have h1 : a = -1 ∨ a = 0 ∨ a = 1 := by omega
 have h2 : b = -1 ∨ b = 0 ∨ b = 1 := by omega
 rcases h1 with rfl | rfl | rfl <;> rcases h2 with rfl | rfl | rfl <;> decide
theorem first_spec {V : View} {s : Sl} {l : List Tk} (h : TicksAt V s l) (hn : 1 ≤ l.length) (hn2 : l.length ≤ 2 ^ 40) {x : NumV} {p : Cq} (hx : NumAt V x p) {S : Nat} (hz : ∀ k ∈ l, k.szle S) (zp : p.sz ≤ S) (hS : S ≤ 2 ^ 28) :
 CallV Tryz.prog n_scan_first #[s.v, x.val] V fun v V' => ∃ (r : NumV) (b : Bool), v = .tuple #[r.val, .bool b] ∧ b = (first0 p l).isSome ∧ NumAt V' r ((first0 p l).getD Cq.zero) := by
 have hl : s.len = l.length := h.len
 have ek : l[0]? = some l[0] := List.getElem?_eq_getElem (by omega)
 obtain ⟨g, y, hy, _, hs, ⟨h1, g1⟩, h2, g2⟩ := ticks_get h (t := 0) (by omega) (k := l[0]) ek
 obtain ⟨z1, z2⟩ := hz _ (List.getElem_mem (show 0 < l.length by omega))
 have e0 : first0 p l = if l[0].place = p then some l[0].time else firstP p l[0] (l.drop 1) := by
  rw [show first0 p l = first0 p (l.drop 0) from rfl, drop_at ek]; rfl
 refine scan_first_vc s x V _ (fun _ z _ => ∃ (i : Nat) (a : Tk), z.t6 = i ∧ 1 ≤ i ∧ i ≤ l.length ∧ l[i - 1]? = some a ∧ first0 p l = firstP p a (l.drop i)) (fun _ z _ => l.length - z.t6.toNat) ⟨g, hs, y.place, h2, g2, ?_⟩
 refine (Num_Same_spec hy.place hx (by omega) (by omega)).mono fun v V1 l1 hv => ⟨_, hv, fun c => ?_, fun c => ⟨?_, ?_⟩⟩
 · have c : l[0].place = p := by simpa using c
   rw [e0, if_pos c]
   exact ⟨g, hs, y.time, View.has_le l1 h1, g1, _, _, rfl, rfl, hy.time.le l1⟩
 · have c : ¬ l[0].place = p := by simpa using c
   exact ⟨1, l[0], rfl, by omega, by omega, ek, by rw [e0, if_neg c]⟩
 rintro ⟨t6, o4⟩ V2 l2 ⟨i, a, ei, i1, i2, ea, hE⟩
 dsimp only at ei ⊢
 subst ei
 have L2 := View.le_trans l1 l2
 rw [hl]
 refine ⟨fun hlt => ?_, fun hge => ?_⟩
 · have hk : i < l.length := by simp at hlt; omega
   rw [i64w (n := (i : Int) - 1) (by omega) (by omega), i64w (n := (i : Int) + 1) (by omega) (by omega)]
   have eb : l[i]? = some l[i] := List.getElem?_eq_getElem hk
   obtain ⟨za1, za2⟩ := hz a (List.mem_of_getElem? ea)
   obtain ⟨zb1, zb2⟩ := hz _ (List.getElem_mem hk)
   rw [drop_at eb] at hE
   obtain ⟨ga, ya, hya, hha, hsa, _⟩ := ticks_get (h.le L2) (t := (i : Int) - 1) (by omega) (k := a) (by rw [show ((i : Int) - 1).toNat = i - 1 by omega]; exact ea)
   obtain ⟨gb, yb, hyb, hhb, hsb, _⟩ := ticks_get (h.le L2) (t := (i : Int)) (by omega) (k := l[i]) (by rw [Int.toNat_natCast]; exact eb)
   rw [hl] at ga gb
   generalize l[i] = b at *
   have step : firstP p b (l.drop (i + 1)) = first0 p l → (∃ (j : Nat) (a : Tk), ((i : Int) + 1) = j ∧ 1 ≤ j ∧ j ≤ l.length ∧ l[j - 1]? = some a ∧ first0 p l = firstP p a (l.drop j)) ∧ l.length - ((i : Int) + 1).toNat < l.length - (i : Int).toNat :=
    fun he => ⟨⟨i + 1, b, by omega, by omega, by omega, by rw [Nat.add_sub_cancel]; exact eb, he.symm⟩, by omega⟩
   have eF : first0 p l = if 0 < (a.place.cmp p) * (b.place.cmp p) ∨ a.place = b.place then firstP p b (l.drop (i + 1)) else some (betweenQ a.time b.time (partQ2 p a.place b.place)) := hE
   have hxx := hx.le L2
   refine ⟨ga, ya, hha, hsa, gb, yb, hhb, hsb, (Num_Cmp_spec hya.place hxx (by omega) (by omega)).mono fun v V3 l3 hv => ⟨_, hv, ?_⟩⟩
   refine (Num_Cmp_spec (hyb.place.le l3) (hxx.le l3) (by omega) (by omega)).mono fun v V4 l4 hv => ⟨_, hv, ?_⟩
   rw [mul_small (cmp_small _ _) (cmp_small _ _)]
   have L4 := View.le_trans l3 l4
   refine ⟨fun c => step ?_, fun c => (Num_Same_spec (hya.place.le L4) (hyb.place.le L4) (by omega) (by omega)).mono fun v V5 l5 hv => ⟨_, hv, fun d => step ?_, fun d => ?_⟩⟩
   · rw [eF, if_pos (.inl (by simpa using c))]
   · rw [eF, if_pos (.inr (by simpa using d))]
   have c : ¬ 0 < (a.place.cmp p) * (b.place.cmp p) := by
    have := of_decide_eq_false c
    exact this
   have d : ¬ a.place = b.place := by simpa using d
   rw [if_neg (by rintro (g | g)
                  · exact c g
                  · exact d g)] at eF
   have L5 := View.le_trans L4 l5
   have s1 := Cq.sz_sub p a.place; have s2 := Cq.sz_sub b.place a.place
   have s3 := div_sz (z := p - a.place) (w := b.place - a.place) (S := 2 * S + 2) (by omega) (by omega)
   refine (part_spec (hxx.le L5) (hya.place.le L5) (hyb.place.le L5) zp za2 zb2 (by omega)).mono fun v V6 l6 ⟨r5, hv, h5⟩ => ⟨r5, hv, ?_⟩
   refine (between_spec (hya.time.le (View.le_trans L5 l6)) (hyb.time.le (View.le_trans L5 l6)) h5 (S := 8 * S + 16) (by omega) (by omega) (by show ((p - a.place).div (b.place - a.place)).sz ≤ _; omega) (by omega)).mono fun v V7 l7 ⟨r6, hv, h6⟩ => ⟨r6, hv, ?_⟩
   rw [eF]
   exact ⟨_, _, rfl, rfl, h6⟩
 · have e : i = l.length := by simp at hge; omega
   subst e
   rw [List.drop_length] at hE
   rw [hE]
   exact ⟨_, _, rfl, rfl, NumAt.zero V2⟩
theorem When_spec {V : View} {s : Sl} {l : List Tk} (h : TicksAt V s l) {x : NumV} {p : Cq} (hx : NumAt V x p) {S : Nat} (hz : ∀ k ∈ l, k.szle S) (zp : p.sz ≤ S) (hS : S ≤ 2 ^ 28) :
 CallV Tryz.prog n_scan_When #[s.v, x.val] V fun v V' => ∃ r : NumV, v = .tuple #[r.val, .int .i64 (whenE p l)] ∧ NumAt V' r (whenV p l) := by
 have nil : ∀ (e : Int) (V' : View), whenE p l = e → whenV p l = Cq.zero → ∃ r : NumV, Value.tuple #[zN.val, .int .i64 e] = Value.tuple #[r.val, .int .i64 (whenE p l)] ∧ NumAt V' r (whenV p l) := fun e V' he h0 => by
  rw [he, h0]; exact ⟨_, rfl, NumAt.zero V'⟩
 refine scan_When_vc s x V _ ((checked_spec h hz (by omega)).mono fun v V1 l1 ⟨r1, hv, e1⟩ => ⟨r1, hv, fun c => ?_, fun c => ?_⟩)
 · have c : tickE l ≠ 0 := by rw [← e1]; simpa using c
   exact nil _ V1 (by unfold whenE; rw [if_neg c, e1]) (by unfold whenV; rw [if_neg (by rintro ⟨g, _⟩; exact c g)])
 have c : tickE l = 0 := by rw [← e1]; simpa using c
 obtain ⟨n1, n2, asc⟩ := tickE_asc c
 refine (Num_Real_spec (hx.le l1)).mono fun v V2 l2 hv => ⟨_, hv, fun d => ?_, fun d => ?_⟩
 · have d : ¬ p.im = 0 := by simpa using d
   exact nil _ V2 (by unfold whenE; rw [if_pos c, if_neg d]) (by unfold whenV; rw [if_neg (by rintro ⟨_, g⟩; exact d g)])
 have d : p.im = 0 := by simpa using d
 have eE : whenE p l = if (first0 p l).isSome = true then 0 else 5 := by unfold whenE; rw [if_pos c, if_pos d]
 have eV : whenV p l = (first0 p l).getD Cq.zero := by unfold whenV; rw [if_pos ⟨c, d⟩]
 have L2 := View.le_trans l1 l2
 refine (first_spec (h.le L2) n1 (by omega) (hx.le L2) hz zp hS).mono fun v V3 l3 ⟨r3, b, hv, hb, h3⟩ => ⟨r3, b, hv, fun f => ?_, fun f => ?_⟩
 · have f : b = false := by simpa using f
   rw [f] at hb
   refine nil 5 V3 (by rw [eE, ← hb]; rfl) ?_
   rw [eV]
   cases hq : first0 p l with
   | none => rfl
   | some w => rw [hq] at hb; simp at hb
 · have f : b = true := by simpa using f
   rw [f] at hb
   rw [eE, eV, ← hb]
   exact ⟨r3, rfl, h3⟩

def ms0 : List Mk := [⟨0, 0, P3.zero⟩, ⟨1, 0, ⟨intQ 2, Cq.zero, Cq.zero⟩⟩, ⟨0, 1, ⟨intQ 1, intQ 3, Cq.zero⟩⟩]
def ts0 : List Tk := [⟨Cq.zero, Cq.zero⟩, ⟨intQ 10, intQ 5⟩]
theorem ms0_fit : fitE ms0 = 0 := by decide +kernel
theorem ms0_skew : (if (fitF ms0).real = true then dotP (fitF ms0).u (fitF ms0).v else Cq.zero) = intQ 2 := by decide +kernel
theorem ms0_real : (fitF ms0).real = true := by decide +kernel
theorem ts0_when : whenE (intQ 3) ts0 = 0 := by decide +kernel
theorem ts0_at : whenV (intQ 3) ts0 = intQ 6 := by decide +kernel
theorem text2 : ((cqS (intQ 2)).toList == (ByteArray.mk #[50]).toList) = true := by decide +kernel
theorem text6 : ((cqS (intQ 6)).toList == (ByteArray.mk #[54]).toList) = true := by decide +kernel
theorem int_at {V : View} {n : Int} (h0 : -9223372036854775808 ≤ n) (h1 : n ≤ 9223372036854775807) :
 CallV Tryz.prog n_num_Int #[.int .i64 n] V fun v V' => ∃ r : NumV, v = r.val ∧ NumAt V' r (intQ n) := num_Int_spec h0 h1
theorem Order42 {V : View} : CallV Tryz.prog n_scan_Order #[.int .i64 4, .int .i64 2] V fun v _ => v = .tuple #[.int .i64 (-2), .int .i64 0] := by
 have h1 : CallV Tryz.prog n_scan_length #[.int .i64 4] V fun v _ => v = .bool true :=
  scan_length_vc 4 V _ ⟨fun _ => ⟨fun _ => rfl, fun h => absurd h (by decide)⟩, fun h => absurd h (by decide)⟩
 refine scan_Order_vc 4 2 V _ (h1.mono fun v V1 _ hv => ⟨_, hv, fun h => absurd h (by decide), fun _ => ⟨fun h => absurd h (by decide), fun _ => ⟨fun h => absurd h (by decide), fun _ => ?_⟩⟩⟩)
 exact (scan_order_vc 4 2 V1 (fun v _ => v = .int .i64 (-2)) ⟨fun h => absurd h (by decide), fun _ => rfl⟩).mono fun v V2 _ hv => ⟨_, hv, rfl⟩
theorem sc_awake_spec {V : View} : CallV Tryz.prog n_waveportlaw08_awake #[] V fun v _ => v = .bool true := by
 refine waveportlaw08_awake_vc V _ ((int_at (by omega) (by omega)).mono fun v V1 l1 ⟨r1, hv, h1⟩ => ⟨r1, hv, ?_⟩)
 refine (int_at (by omega) (by omega)).mono fun v V2 l2 ⟨r2, hv, h2⟩ => ⟨r2, hv, ?_⟩
 refine (int_at (by omega) (by omega)).mono fun v V3 l3 ⟨r3, hv, h3⟩ => ⟨r3, hv, fun b1 V4 l4 _ hb1 => ?_⟩
 have hz4 : NumAt V4 zN Cq.zero := NumAt.zero V4
 have hM : MarksAt V4 (Sl.mk (some (Addr.mk b1 0 none)) 3 3) ms0 := by
  refine ListAt.of_block (V := V4) (sz := 17) (P := markC) (zs := ms0) (o := (MarkV.mk 0 0 ⟨zN, zN, zN⟩).val.cells.toList ++ ((MarkV.mk 1 0 ⟨r1, zN, zN⟩).val.cells.toList ++ (MarkV.mk 0 1 ⟨r2, r3, zN⟩).val.cells.toList)) (o' := []) (b := b1) (fun _ => by rw [List.append_nil]; exact hb1) ?_ rfl (Nat.le_refl _) (fun _ => rfl)
  exact ⟨_, _, rfl, rfl, ⟨_, rfl, rfl, rfl, hz4, hz4, hz4⟩, _, _, rfl, rfl, ⟨_, rfl, rfl, rfl, h1.le (View.le_trans l2 (View.le_trans l3 l4)), hz4, hz4⟩, _, [], by rw [List.append_nil], rfl, ⟨_, rfl, rfl, rfl, h2.le (View.le_trans l3 l4), h3.le l4, hz4⟩, rfl⟩
 have s0 : ∀ m ∈ ms0, m.in64 ∧ m.p.szle 1100 := by
  have z0 : Cq.zero.sz ≤ 64 := by decide +kernel
  have i0 : ∀ n : Int, -9223372036854775808 ≤ n ∧ n ≤ 9223372036854775807 → (intQ n).sz ≤ 1100 := fun n h => Nat.le_trans (intQ_sz h) (by omega)
  intro m hm
  simp only [ms0, List.mem_cons, List.not_mem_nil, or_false] at hm
  rcases hm with rfl | rfl | rfl
  · exact ⟨⟨⟨by decide, by decide⟩, ⟨by decide, by decide⟩⟩, Nat.le_trans z0 (by omega), Nat.le_trans z0 (by omega), Nat.le_trans z0 (by omega)⟩
  · exact ⟨⟨⟨by decide, by decide⟩, ⟨by decide, by decide⟩⟩, i0 2 (by omega), Nat.le_trans z0 (by omega), Nat.le_trans z0 (by omega)⟩
  · exact ⟨⟨⟨by decide, by decide⟩, ⟨by decide, by decide⟩⟩, i0 1 (by omega), i0 3 (by omega), Nat.le_trans z0 (by omega)⟩
 refine (Fit_spec hM (fun m hm => (s0 m hm).1) (fun m hm => (s0 m hm).2)).mono fun v V5 l5 ⟨r4, hv, h4, hsz⟩ => ⟨r4, _, hv, ?_⟩
 rw [ms0_fit] at h4
 simp only [if_true] at h4
 refine (Skew_spec h4 (hsz ms0_fit) (by omega)).mono fun v V6 l6 ⟨r6, hv, h6⟩ => ⟨r6, _, hv, ?_⟩
 rw [ms0_skew] at h6
 refine (int_at (by omega) (by omega)).mono fun v V7 l7 ⟨r8, hv, h8⟩ => ⟨r8, hv, ?_⟩
 refine (int_at (by omega) (by omega)).mono fun v V8 l8 ⟨r9, hv, h9⟩ => ⟨r9, hv, fun b2 V9 l9 _ hb2 => ?_⟩
 have hz9 : NumAt V9 zN Cq.zero := NumAt.zero V9
 have hT : TicksAt V9 (Sl.mk (some (Addr.mk b2 0 none)) 2 2) ts0 := by
  refine ListAt.of_block (V := V9) (sz := 10) (P := tickC) (zs := ts0) (o := (TickV.mk zN zN).val.cells.toList ++ (TickV.mk r8 r9).val.cells.toList) (o' := []) (b := b2) (fun _ => by rw [List.append_nil]; exact hb2) ?_ rfl (Nat.le_refl _) (fun _ => rfl)
  exact ⟨_, _, rfl, rfl, ⟨_, rfl, hz9, hz9⟩, _, [], by rw [List.append_nil], rfl, ⟨_, rfl, h8.le (View.le_trans l8 l9), h9.le l9⟩, rfl⟩
 refine (int_at (by omega) (by omega)).mono fun v V10 l10 ⟨r10, hv, h10⟩ => ⟨r10, hv, ?_⟩
 have t0 : ∀ k ∈ ts0, k.szle 64 := by
  have z0 : Cq.zero.sz ≤ 64 := by decide +kernel
  intro k hk
  simp only [ts0, List.mem_cons, List.not_mem_nil, or_false] at hk
  rcases hk with rfl | rfl
  · exact ⟨z0, z0⟩
  · exact ⟨intQ_sz (by omega), intQ_sz (by omega)⟩
 refine (When_spec (S := 64) (hT.le l10) h10 t0 (intQ_sz (by omega)) (by omega)).mono fun v V11 l11 ⟨r11, hv, h11⟩ => ⟨r11, _, hv, ?_⟩
 rw [ts0_at] at h11
 refine Order42.mono fun v V12 l12 hv => ⟨_, _, hv, fun _ => ⟨fun _ => ?_, fun h => ?_⟩, fun h => ?_⟩
 · have L12 := View.le_trans l7 (View.le_trans l8 (View.le_trans l9 (View.le_trans l10 (View.le_trans l11 l12))))
   have i2 : (intQ 2).sz ≤ 2 ^ 40 := Nat.le_trans (intQ_sz (by omega)) (by omega)
   have i6 : (intQ 6).sz ≤ 2 ^ 40 := Nat.le_trans (intQ_sz (by omega)) (by omega)
   refine (Num_Text_spec (h6.le L12) i2).mono fun v V13 l13 hv => ⟨_, hv, fun _ => ⟨fun _ => ?_, fun h => ?_⟩, fun h => ?_⟩
   · refine (Num_Text_spec (h11.le (View.le_trans l12 l13)) i6).mono fun v V14 _ hv => ⟨_, hv, fun _ => ⟨fun _ => rfl, fun h => absurd h (by decide)⟩, fun h => ?_⟩
     rw [text6] at h; exact absurd h (by decide)
   · rw [ts0_when] at h; exact absurd h (by decide)
   · rw [text2] at h; exact absurd h (by decide)
 · rw [if_pos ms0_real] at h; exact absurd h (by decide)
 · rw [ms0_fit] at h; exact absurd h (by decide)

def arrI (a : Arr3) : Prop := ratI a.e0 ∧ ratI a.e1 ∧ ratI a.e2
def arrP (a : Arr3) : P3 := ⟨ratQ a.e0, ratQ a.e1, ratQ a.e2⟩
theorem arrP_sz {a : Arr3} (h : arrI a) : (arrP a).szle 64 := ⟨ratQ_size h.1, ratQ_size h.2.1, ratQ_size h.2.2⟩
theorem l8_spot_spec {V : View} {a : Arr3} (h : arrI a) : CallV Tryz.prog n_waveportlaw08_spot #[a.val] V fun v V' => ∃ r1 r2 : SpotV, v = .tuple #[r1.val, r2.val] ∧ SpotAt V' r1 (arrP a) ∧ SpotQ V' r2 (arrP a) := by
 obtain ⟨h0, h1, h2⟩ := h
 refine waveportlaw08_spot_vc a V _ ⟨⟨by omega, by omega⟩, ⟨by omega, by omega⟩, ⟨by omega, by omega⟩, ⟨by omega, by omega⟩, ⟨by omega, by omega⟩, ⟨by omega, by omega⟩, ?_⟩
 refine (law1_Of_spec h0).mono fun v V1 l1 ⟨r1, hv, a1⟩ => ⟨r1, hv, (law1_Of_spec h1).mono fun v V2 l2 ⟨r2, hv, a2⟩ => ⟨r2, hv, (law1_Of_spec h2).mono fun v V3 l3 ⟨r3, hv, a3⟩ => ⟨r3, hv, ?_⟩⟩⟩
 refine (ref1_Of_spec2 h0).mono fun v V4 l4 ⟨r4, hv, a4⟩ => ⟨r4, hv, (ref1_Of_spec2 h1).mono fun v V5 l5 ⟨r5, hv, a5⟩ => ⟨r5, hv, (ref1_Of_spec2 h2).mono fun v V6 l6 ⟨r6, hv, a6⟩ => ⟨r6, hv, ⟨r1, r2, r3⟩, ⟨r4, r5, r6⟩, rfl, ?_, ?_⟩⟩⟩
 · have L := View.le_trans l4 (View.le_trans l5 l6)
   exact ⟨a1.le (View.le_trans l2 (View.le_trans l3 L)), a2.le (View.le_trans l3 L), a3.le L⟩
 · exact ⟨a4.le (View.le_trans l5 l6), a5.le l6, a6⟩
def lfI (a : LFrameV) : Prop := arrI a.o ∧ arrI a.u ∧ arrI a.v
def lfF (a : LFrameV) : F3 := ⟨arrP a.o, arrP a.u, arrP a.v⟩
theorem lfF_sz {a : LFrameV} (h : lfI a) : (lfF a).szle 64 := ⟨arrP_sz h.1, arrP_sz h.2.1, arrP_sz h.2.2⟩
theorem l8_frames_spec {V : View} {a : LFrameV} (h : lfI a) : CallV Tryz.prog n_waveportlaw08_frames #[a.val] V fun v V' => ∃ r1 r2 : FrameV, v = .tuple #[r1.val, r2.val] ∧ FrameAt V' r1 (lfF a) ∧ FrameQ V' r2 (lfF a) := by
 obtain ⟨h0, h1, h2⟩ := h
 refine waveportlaw08_frames_vc a V _ ((l8_spot_spec h0).mono fun v V1 l1 ⟨r1, r2, hv, a1, a2⟩ => ⟨r1, r2, hv, ?_⟩)
 refine (l8_spot_spec h1).mono fun v V2 l2 ⟨r3, r4, hv, a3, a4⟩ => ⟨r3, r4, hv, ?_⟩
 refine (l8_spot_spec h2).mono fun v V3 l3 ⟨r5, r6, hv, a5, a6⟩ => ⟨r5, r6, hv, ⟨r1, r3, r5⟩, ⟨r2, r4, r6⟩, rfl, ?_, ?_⟩
 · exact ⟨a1.le (View.le_trans l2 l3), a3.le l3, a5⟩
 · exact ⟨a2.le (View.le_trans l2 l3), a4.le l3, a6⟩
theorem l8_sameSpot_spec {V : View} {a b : SpotV} {p q : P3} {S : Nat} (ha : SpotAt V a p) (hb : SpotAt V b q) (hp : p.szle S) (hq : q.szle S) (hS : S ≤ 2 ^ 40) (e : p = q) : CallV Tryz.prog n_waveportlaw08_sameSpot #[a.val, b.val] V fun v _ => v = .bool true := by
 subst e
 obtain ⟨z1, z2, z3⟩ := hp
 obtain ⟨y1, y2, y3⟩ := hq
 refine waveportlaw08_sameSpot_vc a b V _ ((Num_Same_spec ha.x hb.x (by omega) (by omega)).mono fun v V1 l1 hv => ⟨_, hv, fun _ => ?_, fun h => absurd h (by simp)⟩)
 refine (Num_Same_spec (ha.y.le l1) (hb.y.le l1) (by omega) (by omega)).mono fun v V2 l2 hv => ⟨_, hv, fun _ => ?_, fun h => absurd h (by simp)⟩
 have L := View.le_trans l1 l2
 exact (Num_Same_spec (ha.z.le L) (hb.z.le L) (by omega) (by omega)).mono fun v V3 _ hv => ⟨_, hv, by simp⟩
theorem l8_distance_spec {V : View} {a b : SpotV} {p q : P3} {S T : Nat} (ha : SpotAt V a p) (hb : SpotAt V b q) (hp : p.szle S) (hq : q.szle T) (hS : S + T ≤ 2 ^ 36) :
 CallV Tryz.prog n_waveportlaw08_distance #[a.val, b.val] V fun v V' => ∃ r : NumV, v = r.val ∧ NumAt V' r (dotP (lessP p q) (lessP p q)) := by
 obtain ⟨z1, z2, z3⟩ := hp
 obtain ⟨y1, y2, y3⟩ := hq
 have s1 := Cq.sz_sub p.x q.x; have s2 := Cq.sz_sub p.y q.y; have s3 := Cq.sz_sub p.z q.z
 have e : ∀ u w : Cq, u + minus1 * w = u - w := fun u w => by refine Cq.ext' ?_ ?_ <;> simp only [minus1, Cq.add_re, Cq.add_im, Cq.mul_re, Cq.mul_im, Cq.sub_re, Cq.sub_im] <;> grind
 have m1 := Cq.sz_mul (p.x - q.x) (p.x - q.x); have m2 := Cq.sz_mul (p.y - q.y) (p.y - q.y); have m3 := Cq.sz_mul (p.z - q.z) (p.z - q.z)
 have m4 := Cq.sz_add ((p.x - q.x) * (p.x - q.x)) ((p.y - q.y) * (p.y - q.y))
 refine waveportlaw08_distance_vc a b V _ ((Num_Sub_spec ha.x hb.x (by omega) (by omega)).mono fun v V1 l1 ⟨r1, hv, h1⟩ => ⟨r1, hv, ?_⟩)
 refine (Num_Sub_spec (ha.y.le l1) (hb.y.le l1) (by omega) (by omega)).mono fun v V2 l2 ⟨r2, hv, h2⟩ => ⟨r2, hv, ?_⟩
 have L2 := View.le_trans l1 l2
 refine (Num_Sub_spec (ha.z.le L2) (hb.z.le L2) (by omega) (by omega)).mono fun v V3 l3 ⟨r3, hv, h3⟩ => ⟨r3, hv, ?_⟩
 have k1 := h1.le (View.le_trans l2 l3)
 refine (Num_Mul_spec k1 k1 (by omega) (by omega)).mono fun v V4 l4 ⟨r4, hv, h4⟩ => ⟨r4, hv, ?_⟩
 have k2 := h2.le (View.le_trans l3 l4)
 refine (Num_Mul_spec k2 k2 (by omega) (by omega)).mono fun v V5 l5 ⟨r5, hv, h5⟩ => ⟨r5, hv, ?_⟩
 refine (Num_Add_spec (h4.le l5) h5 (by omega) (by omega)).mono fun v V6 l6 ⟨r6, hv, h6⟩ => ⟨r6, hv, ?_⟩
 have k3 := h3.le (View.le_trans l4 (View.le_trans l5 l6))
 refine (Num_Mul_spec k3 k3 (by omega) (by omega)).mono fun v V7 l7 ⟨r7, hv, h7⟩ => ⟨r7, hv, ?_⟩
 refine (Num_Add_spec (h6.le l7) h7 (by omega) (by omega)).mono fun v V8 l8 ⟨r8, hv, h8⟩ => ⟨r8, hv, r8, rfl, ?_⟩
 have e2 : lessP p q = ⟨p.x - q.x, p.y - q.y, p.z - q.z⟩ := by
  show P3.mk _ _ _ = _
  rw [e, e, e]
 rw [e2]; exact h8
end Go.Proofs.YtefkpimcffofaaaGreat
namespace Go.Proofs.YtefkpimcffofaaaGreat
open Go Go.Vc Go.Proofs Go.ChangeShapes Go.RowKit
abbrev i3 (fs : List FK) : List FK := .int .i64 :: .int .i64 :: .int .i64 :: fs
theorem three {fs : List FK} {cs : List Value} (h : AllOk (i3 fs) cs) :
 ∃ (r : RatV) (cs' : List Value), cs = .int .i64 r.re :: .int .i64 r.im :: .int .i64 r.den :: cs' ∧ ratI r ∧ AllOk fs cs' := by
 cases cs with
 | nil => exact h.elim
 | cons x cs =>
   obtain ⟨⟨a, e1, w1⟩, h⟩ := h
   cases cs with
   | nil => exact h.elim
   | cons y cs =>
     obtain ⟨⟨b, e2, w2⟩, h⟩ := h
     cases cs with
     | nil => exact h.elim
     | cons z cs =>
       obtain ⟨⟨c, e3, w3⟩, h⟩ := h
       exact ⟨⟨a, b, c⟩, cs, by rw [e1, e2, e3], ⟨bounds_i64 w1, bounds_i64 w2, bounds_i64 w3⟩, h⟩
theorem nine {fs : List FK} {cs : List Value} (h : AllOk (i3 (i3 (i3 fs))) cs) : ∃ (a : Arr3) (cs' : List Value), cs = a.val.cells.toList ++ cs' ∧ arrI a ∧ AllOk fs cs' := by
 obtain ⟨r0, c0, e0, h0, h⟩ := three h
 obtain ⟨r1, c1, e1, h1, h⟩ := three h
 obtain ⟨r2, c2, e2, h2, h⟩ := three h
 exact ⟨⟨r0, r1, r2⟩, c2, by rw [e0, e1, e2]; rfl, ⟨h0, h1, h2⟩, h⟩
theorem allok_nil {cs : List Value} (h : AllOk [] cs) : cs = [] := by
 cases cs with
 | nil => rfl
 | cons _ _ => exact h.elim
section
variable {H : Type} {enc : TypeId × Value → H} {P : Program} {w : World} {base : Nat} {spare : Nat → Bool} {held : Bool} {t : TypeId} {v : Value} {dd : DataW H} {ps : List MemPlace}
theorem open_arr3 (hk : flatK P 8 t = some (i3 (i3 (i3 [])))) (h : DataW.Trod enc P w base spare held t v dd ps) : ∃ x : Arr3, v = x.val ∧ arrI x := by
 obtain ⟨a, c, e, ha, h⟩ := nine (open_flat hk h)
 rw [allok_nil h, List.append_nil] at e
 exact ⟨a, agg_of_cells e (by rintro ⟨⟩), ha⟩
theorem open_lframe (hk : flatK P 8 t = some (i3 (i3 (i3 (i3 (i3 (i3 (i3 (i3 (i3 [])))))))))) (h : DataW.Trod enc P w base spare held t v dd ps) : ∃ x : LFrameV, v = x.val ∧ lfI x := by
 obtain ⟨a, c, e, ha, h⟩ := nine (open_flat hk h)
 obtain ⟨b, c1, e1, hb, h⟩ := nine h
 obtain ⟨d, c2, e2, hd, h⟩ := nine h
 rw [e1, e2, allok_nil h, List.append_nil] at e
 exact ⟨⟨a, b, d⟩, agg_of_cells e (by rintro ⟨⟩), ha, hb, hd⟩
end
end Go.Proofs.YtefkpimcffofaaaGreat
namespace Go.Proofs.YtefkpimcffofaaaGreat
open Go Go.Vc Go.Proofs
theorem straightF_sz {f : F3} {S : Nat} (h : f.szle S) : (straightF f).szle (30 * S + 40) := by
 have z1 := dotP_sz h.u h.v
 have z2 := dotP_sz h.u h.u
 have z3 := div_sz (z := dotP f.u f.v) (w := dotP f.u f.u) (S := 3 * (S + S) + 5) (by omega) (by omega)
 have z4 : (-((dotP f.u f.v).div (dotP f.u f.u))).sz ≤ 4 * (3 * (S + S) + 5) + 8 := by rw [Cq.sz_neg]; exact z3
 obtain ⟨a, b, c⟩ := alongP_sz h.v h.u z4
 obtain ⟨o1, o2, o3⟩ := h.o
 obtain ⟨u1, u2, u3⟩ := h.u
 exact ⟨⟨by show f.o.x.sz ≤ _; omega, by show f.o.y.sz ≤ _; omega, by show f.o.z.sz ≤ _; omega⟩, ⟨by show f.u.x.sz ≤ _; omega, by show f.u.y.sz ≤ _; omega, by show f.u.z.sz ≤ _; omega⟩, Nat.le_trans a (by omega), Nat.le_trans b (by omega), Nat.le_trans c (by omega)⟩

theorem posDet_p (O U W : R3) : posDet ⟨O.p, U.p, W.p⟩ = rq (detR U W) := by
 show dotP U.p U.p * dotP W.p W.p - dotP U.p W.p * dotP U.p W.p = _
 simp only [dot_p, rq_mul, rq_sub]; rfl
theorem posE_p (O U W Q : R3) : posE ⟨O.p, U.p, W.p⟩ Q.p = if detR U W = 0 then 6 else 0 := by
 unfold posE
 have h : (F3.real ⟨O.p, U.p, W.p⟩ && Q.p.real) = true := by simp [F3.real, R3.real]
 rw [if_pos h, posDet_p, ← rq_zero]
 by_cases c : detR U W = 0
 · rw [if_pos c, if_pos (by rw [c])]
 · rw [if_neg c, if_neg (fun e => c (rq_inj.1 e))]
theorem posI_p (O U W Q : R3) : posI ⟨O.p, U.p, W.p⟩ (lessP Q.p O.p) = rq (findI U W (lessR Q O)) := by
 unfold posI
 rw [posDet_p, less_p]
 simp only [dot_p, rq_mul, rq_sub, rq_div]; rfl
theorem posJ_p (O U W Q : R3) : posJ ⟨O.p, U.p, W.p⟩ (lessP Q.p O.p) = rq (findJ U W (lessR Q O)) := by
 unfold posJ
 rw [posDet_p, less_p]
 simp only [dot_p, rq_mul, rq_sub, rq_div]; rfl
theorem posOff_p (O U W Q : R3) : posOff ⟨O.p, U.p, W.p⟩ Q.p = rq (dotR (lessR Q (placeR O U W (findI U W (lessR Q O)) (findJ U W (lessR Q O)))) (lessR Q (placeR O U W (findI U W (lessR Q O)) (findJ U W (lessR Q O))))) := by
 unfold posOff
 show dotP (lessP Q.p (placeP _ (posI _ (lessP Q.p O.p)) (posJ _ (lessP Q.p O.p)))) (lessP Q.p (placeP _ (posI _ (lessP Q.p O.p)) (posJ _ (lessP Q.p O.p)))) = _
 rw [posI_p, posJ_p, place_p, less_p, dot_p]
theorem straightE_p (O U W : R3) : straightE ⟨O.p, U.p, W.p⟩ = if dotR U U = 0 then 3 else 0 := by
 unfold straightE
 have h : F3.real ⟨O.p, U.p, W.p⟩ = true := by simp [F3.real, R3.real]
 rw [if_pos h]
 simp only [dot_p]
 rw [← rq_zero]
 by_cases c : dotR U U = 0
 · rw [if_pos c, if_pos (by rw [c])]
 · rw [if_neg c, if_neg (fun e => c (rq_inj.1 e))]
theorem straightF_p (O U W : R3) : straightF ⟨O.p, U.p, W.p⟩ = ⟨O.p, U.p, (upR U W).p⟩ := by
 unfold straightF
 simp only [dot_p, rq_div, rq_neg, along_p]; rfl
theorem f3_real {f : F3} (h : f.real = true) : ∃ O U W : R3, f = ⟨O.p, U.p, W.p⟩ := by
 unfold F3.real at h
 simp only [Bool.and_eq_true] at h
 obtain ⟨h1, h2⟩ := h
 have e1 := P3.of_real h1
 have e2 := P3.of_real h2.1
 have e3 := P3.of_real h2.2
 cases f with
 | mk o u v => exact ⟨_, _, _, by rw [F3.mk.injEq]; exact ⟨e1, e2, e3⟩⟩
theorem fszle_mono {f : F3} {S T : Nat} (h : f.szle S) (hST : S ≤ T) : f.szle T := ⟨h.o.mono hST, h.u.mono hST, h.v.mono hST⟩
theorem straight64 {f : F3} (h : f.szle 64) : (straightF f).szle 2000 := fszle_mono (straightF_sz h) (by omega)
set_option maxHeartbeats 1000000 in
theorem ScanPositions_spec {V : View} {f0 : LFrameV} {i j : RatV} {a : Arr3} (hf : lfI f0) (hi : ratI i) (hj : ratI j) (ha : arrI a) :
 CallV Tryz.prog n_waveportlaw08_ScanPositions #[f0.val, i.val, j.val, a.val] V fun v _ => v = .bool true := by
 have zf := lfF_sz hf; have zi := ratQ_size hi; have zj := ratQ_size hj; have zs := arrP_sz ha
 have aw : ∀ {V : View}, CallV Tryz.prog n_waveportlaw08_awake #[] V fun v V' => ∃ r : Bool, v = .bool r ∧ Value.bool r = .bool true := fun {V} => sc_awake_spec.mono fun v V' _ hv => ⟨_, hv, rfl⟩
 refine waveportlaw08_ScanPositions_vc f0 i j a V _ ((l8_frames_spec hf).mono fun v V1 l1 ⟨r1, r2, hv, h1, _⟩ => ⟨r1, r2, hv, ?_⟩)
 refine (l8_spot_spec ha).mono fun v V2 l2 ⟨r3, r4, hv, h3, _⟩ => ⟨r3, r4, hv, ?_⟩
 refine (law1_Of_spec hi).mono fun v V3 l3 ⟨r5, hv, h5⟩ => ⟨r5, hv, (law1_Of_spec hj).mono fun v V4 l4 ⟨r6, hv, h6⟩ => ⟨r6, hv, ?_⟩⟩
 have L14 := View.le_trans l2 (View.le_trans l3 l4)
 have oi : ∀ {V : View}, CallV Tryz.prog n_law1_Of #[i.val] V fun v V' => ∃ x : NumV, v = x.val ∧ NumAt V' x (ratQ i) := fun {V} => law1_Of_spec hi
 have oj : ∀ {V : View}, CallV Tryz.prog n_law1_Of #[j.val] V fun v V' => ∃ x : NumV, v = x.val ∧ NumAt V' x (ratQ j) := fun {V} => law1_Of_spec hj
 generalize lfF f0 = f at *
 generalize arrP a = q at *
 generalize ratQ i = qi at *
 generalize ratQ j = qj at *
 refine (Place_spec (h1.le L14) (h5.le l4) h6 zf zi zj (by omega)).mono fun v V5 l5 ⟨r7, hv, h7⟩ => ⟨r7, _, hv, fun c => ?_, fun c => ?_⟩
 · have e : ¬ placeOk f qi qj = true := fun e => by rw [if_pos e] at c; exact absurd c (by decide)
   rw [if_neg e]
   exact ⟨fun _ => aw, fun c => absurd c (by decide)⟩
 have ok : placeOk f qi qj = true := by
  rcases Bool.eq_false_or_eq_true (placeOk f qi qj) with e | e
  · exact e
  · rw [e] at c; exact absurd c (by decide)
 rw [if_pos ok] at h7
 have ok' := ok
 unfold placeOk at ok
 simp only [Bool.and_eq_true, decide_eq_true_eq] at ok
 obtain ⟨rf, ri, rj⟩ := ok
 obtain ⟨O, U, W, rfl⟩ := f3_real rf
 rw [rq_of ri] at h7 zi oi
 rw [rq_of rj] at h7 zj oj
 have eP : placeP ⟨O.p, U.p, W.p⟩ (rq qi.re) (rq qj.re) = (placeR O U W qi.re qj.re).p := place_p O U W qi.re qj.re
 have zP : (placeR O U W qi.re qj.re).p.szle 324 := by rw [← eP]; exact placeP_sz zf zi zj
 rw [eP] at h7
 generalize hI : qi.re = I at *
 generalize hJ : qj.re = J at *
 generalize hPd : placeR O U W I J = P at *
 have L15 := View.le_trans L14 l5
 have zf324 : F3.szle ⟨O.p, U.p, W.p⟩ 324 := fszle_mono zf (by omega)
 refine (Position_spec (h1.le L15) h7 zf324 zP (by omega)).mono fun v V7 l7 ⟨r10, r11, r12, hv, h10, h11, h12, hb⟩ => ⟨r10, r11, r12, _, hv, ?_⟩
 have eE : posE ⟨O.p, U.p, W.p⟩ P.p = if detR U W = 0 then 6 else 0 := posE_p O U W P
 by_cases hd : detR U W = 0
 · rw [eE, if_pos hd]
   exact ⟨fun _ => ⟨fun _ => aw, fun c => absurd c (by decide)⟩, fun c => absurd c (by decide)⟩
 have e0 : posE ⟨O.p, U.p, W.p⟩ P.p = 0 := by rw [eE, if_neg hd]
 have hb0 := hb e0
 have eI : posI ⟨O.p, U.p, W.p⟩ (lessP P.p O.p) = rq I := by rw [posI_p, ← hPd, findI_place I J hd]
 have eJ : posJ ⟨O.p, U.p, W.p⟩ (lessP P.p O.p) = rq J := by rw [posJ_p, ← hPd, findJ_place I J hd]
 have eO : posOff ⟨O.p, U.p, W.p⟩ P.p = Cq.zero := by
  rw [posOff_p, ← hPd, findI_place I J hd, findJ_place I J hd, less_self, rq_zero]
 rw [if_pos e0, show F3.o ⟨O.p, U.p, W.p⟩ = O.p from rfl, eI] at h10
 rw [if_pos e0, show F3.o ⟨O.p, U.p, W.p⟩ = O.p from rfl, eJ] at h11
 rw [if_pos e0, eO] at h12
 rw [e0]
 refine ⟨fun c => absurd c (by decide), fun _ => ?_⟩
 refine oi.mono fun v V9 l9 ⟨r15, hv, h15⟩ => ⟨r15, hv, (Num_Same_spec (h10.le l9) h15 (by omega) (by omega)).mono fun v V10 l10 hv => ⟨_, hv, fun c => absurd c (by simp), fun _ => ?_⟩⟩
 have L9 := View.le_trans l9 l10
 refine oj.mono fun v V11 l11 ⟨r17, hv, h17⟩ => ⟨r17, hv, (Num_Same_spec (h11.le (View.le_trans L9 l11)) h17 (by omega) (by omega)).mono fun v V12 l12 hv => ⟨_, hv, fun c => absurd c (by simp), fun _ => ?_⟩⟩
 have L7c := View.le_trans L9 (View.le_trans l11 l12)
 have z0 : Cq.zero.sz ≤ 2 ^ 40 := Nat.le_trans Cq.sz_zero (by omega)
 refine (Num_Clear_spec (h12.le L7c) z0).mono fun v V13 l13 hv => ⟨_, hv, fun c => absurd c (by simp), fun _ => ?_⟩
 have L1d := View.le_trans L15 (View.le_trans l7 (View.le_trans L7c l13))
 have hu := uu_ne hd
 have sE : straightE ⟨O.p, U.p, W.p⟩ = 0 := by rw [straightE_p, if_neg hu]
 refine (Straight_spec (h1.le L1d) zf (by omega)).mono fun v V14 l14 ⟨r20, hv, h20⟩ => ⟨r20, _, hv, ?_⟩
 rw [if_pos sE, straightF_p] at h20
 have zS : F3.szle ⟨O.p, U.p, (upR U W).p⟩ 2000 := by rw [← straightF_p]; exact straight64 zf
 have rS : F3.real ⟨O.p, U.p, (upR U W).p⟩ = true := by simp [F3.real, R3.real]
 refine (Skew_spec h20 zS (by omega)).mono fun v V15 l15 ⟨r22, hv, h22⟩ => ⟨r22, _, hv, fun c => ?_, fun _ => ?_⟩
 · rw [sE] at c; exact absurd c (by decide)
 rw [if_pos rS, show dotP U.p (upR U W).p = Cq.zero by rw [dot_p, up_skew hu, rq_zero]] at h22
 refine ⟨fun c => ?_, fun _ => ?_⟩
 · rw [if_pos rS] at c; exact absurd c (by decide)
 refine (Num_Clear_spec h22 z0).mono fun v V16 l16 hv => ⟨_, hv, fun c => absurd c (by simp), fun _ => ?_⟩
 have k20 := h20.le (View.le_trans l15 l16)
 have k1 := h1.le (View.le_trans L1d (View.le_trans l14 (View.le_trans l15 l16)))
 refine (l8_sameSpot_spec k20.u k1.u zf.u zf.u (by omega) rfl).mono fun v V17 l17 hv => ⟨_, hv, fun c => absurd c (by decide), fun _ => ?_⟩
 refine (l8_sameSpot_spec (k20.o.le l17) (k1.o.le l17) zf.o zf.o (by omega) rfl).mono fun v V18 l18 hv => ⟨_, hv, fun c => absurd c (by decide), fun _ => ?_⟩
 have L6 := View.le_trans l15 (View.le_trans l16 (View.le_trans l17 l18))
 have L7i := View.le_trans l7 (View.le_trans L7c (View.le_trans l13 (View.le_trans l14 L6)))
 refine (Position_spec (h20.le L6) (h7.le L7i) zS (zP.mono (by omega)) (by omega)).mono fun v V19 l19 ⟨r27, r28, r29, hv, h27, h28, h29, _⟩ => ⟨r27, r28, r29, _, hv, ?_⟩
 have hd2 : detR U (upR U W) ≠ 0 := by rw [up_det hu]; exact hd
 have e2 : posE ⟨O.p, U.p, (upR U W).p⟩ P.p = 0 := by rw [posE_p, if_neg hd2]
 have eO2 : posOff ⟨O.p, U.p, (upR U W).p⟩ P.p = Cq.zero := by
  rw [posOff_p, ← hPd, up_place, findI_place _ _ hd2, findJ_place _ _ hd2, less_self, rq_zero]
 rw [if_pos e2, eO2] at h29
 rw [e2]
 refine ⟨fun c => absurd c (by decide), fun _ => ?_⟩
 refine (Num_Clear_spec h29 z0).mono fun v V20 l20 hv => ⟨_, hv, fun c => absurd c (by simp), fun _ => ?_⟩
 have L5k := View.le_trans L7i (View.le_trans l19 l20)
 have L2k := View.le_trans l3 (View.le_trans l4 (View.le_trans l5 L5k))
 refine (Position_spec (h1.le (View.le_trans L15 L5k)) (h3.le L2k) zf zs (by omega)).mono fun v V21 l21 ⟨r32, r33, r34, hv, h32, h33, h34, hb3⟩ => ⟨r32, r33, r34, _, hv, ?_⟩
 rcases Bool.eq_false_or_eq_true q.real with rQ | rQ
 · have eQ := P3.of_real rQ
   generalize R3.mk q.x.re q.y.re q.z.re = Q at eQ
   subst eQ
   have e3 : posE ⟨O.p, U.p, W.p⟩ Q.p = 0 := by rw [posE_p, if_neg hd]
   obtain ⟨_, _, zo⟩ := hb3 e3
   rw [if_pos e3] at h34
   rw [e3]
   refine ⟨fun c => absurd c (by decide), fun _ => ?_⟩
   have zl := lessP_sz zP zs
   have zd := dotP_sz zl zl
   refine (l8_distance_spec (h7.le (View.le_trans L5k l21)) (h3.le (View.le_trans L2k l21)) zP zs (by omega)).mono fun v V23 l23 ⟨r37, hv, h37⟩ => ⟨r37, hv, ?_⟩
   refine (Num_Cmp_spec h37 (h34.le l23) (by omega) (by omega)).mono fun v V24 l24 hv => ⟨_, hv, fun _ => aw, fun c => ?_⟩
   exfalso
   rw [less_p, dot_p, posOff_p, cmp_real rfl rfl] at c
   have hle := find_least (o := O) Q I J hd
   rw [hPd] at hle
   have := cmpR_ge.2 hle
   exact of_decide_eq_false c this
 · have e3 : posE ⟨O.p, U.p, W.p⟩ q = 1 := by
     unfold posE
     rw [rQ, Bool.and_false]; rfl
   rw [e3]
   exact ⟨fun _ => ⟨fun _ => aw, fun c => absurd c (by decide)⟩, fun c => absurd c (by decide)⟩
end Go.Proofs.YtefkpimcffofaaaGreat
