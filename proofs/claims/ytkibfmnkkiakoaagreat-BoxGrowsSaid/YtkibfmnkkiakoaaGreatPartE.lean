/- Part of the proof; it has the parts CR3 CR4 CRb1 CRb3 CRb4 CRb5 CRb6 CRi1 COpen5 CRt1 CRt2 CRb7 CRi2. -/
import Derived.Test.YtkibfmnkkiakoaaGreatPartD
import Derived.Laws.StructEq
namespace Go.Proofs.YtkibfmnkkiakoaaGreat
open Go Go.Vc Go.Proofs
set_option maxHeartbeats 4000000 in
theorem ref1_NatDiv_spec {V : View} {s t : Sl} {a b : Nat} (hs : NatAt V s a) (ht : NatAt V t b) (ha : wn a ≤ 2 ^ 43) (hb0 : b ≠ 0) :
 CallV Tryz.prog n_ref1_NatDiv #[s.v, t.v] V fun v V' => ∃ q r : Sl, v = .tuple #[q.v, r.v] ∧ NatAt V' q (a / b) ∧ NatAt V' r (a % b) := by
 have hsl := hs.len
 have htl := ht.len
 obtain ⟨sh, hsh⟩ : ∃ sh, sh = 32 - bl ((dig b).getD (wn b - 1) 0) := ⟨_, rfl⟩
 obtain ⟨hsh1, hwv, hlo⟩ := div_norm hb0 hsh
 obtain ⟨X, hX⟩ : ∃ X, X = a * 2 ^ sh := ⟨_, rfl⟩
 obtain ⟨vN, hvN⟩ : ∃ v, v = b * 2 ^ sh := ⟨_, rfl⟩
 rw [← hvN] at hwv hlo
 obtain ⟨m, hm⟩ : ∃ m, m = s.len + 1 := ⟨_, rfl⟩
 obtain ⟨n, hn⟩ : ∃ n, n = t.len := ⟨_, rfl⟩
 have hna : wn a = s.len := hsl.symm
 have hnb : wn b = n := by rw [hn]; exact htl.symm
 have hal := lt_wn a
 rw [hna] at ha hal
 rw [hnb] at hwv hlo
 have hcmp := ref1_NatCmp_spec hs ht (by omega)
 obtain ⟨v1, hv1⟩ : ∃ v1, v1 = (dig vN).getD (n - 1) 0 := ⟨_, rfl⟩
 obtain ⟨v2, hv2⟩ : ∃ v2, v2 = (dig vN).getD (n - 2) 0 := ⟨_, rfl⟩
 refine ref1_NatDiv_vc s t V _
  (fun c x V' => ∃ (v : Sl) (j : Nat) (u qd : List Nat), c = C_ref1_NatDiv_0.mk (sh : Nat) v (n : Nat) (m - n) (m - n) ∧ NatAt V' v vN ∧ x = L_ref1_NatDiv_0.mk ((j : Int) - 1) (wv u) (wv qd) ∧ DivI X vN n m j u qd)
  (fun _ x _ => (x.t13 + 1).toNat)
  (fun c x _ => ∃ (v : Sl) (j g : Nat) (u qd : List Nat), c = C_ref1_NatDiv_1.mk (sh : Nat) v (n : Nat) (m - n) (m - n) (j : Nat) (wv u) (wv qd) ∧ x = L_ref1_NatDiv_1.mk (g : Nat) ∧ g < 4294967296 ∧ seg u j (n + 1) / vN ≤ g ∧ (g - 1) * vN ≤ seg u j (n + 1))
  (fun c x _ => ∃ (v : Sl) (j g r : Nat) (u qd : List Nat), c = C_ref1_NatDiv_2.mk (sh : Nat) v (n : Nat) (m - n) (m - n) (j : Nat) (wv u) (wv qd) ∧ x = L_ref1_NatDiv_2.mk (g : Nat) (r : Nat) ∧ r < 4294967296 ∧ g * v1 + r = u.getD (j + n) 0 * 4294967296 + u.getD (j + n - 1) 0 ∧
    seg u j (n + 1) / vN ≤ g)
  (fun _ x _ => x.t15.toNat)
  (fun c x _ => ∃ (v : Sl) (j g i cr bo : Nat) (u qd u0 : List Nat), c = C_ref1_NatDiv_3.mk (sh : Nat) v (n : Nat) (m - n) (m - n) (j : Nat) (g : Nat) ∧ x = L_ref1_NatDiv_3.mk (bo : Nat) (cr : Nat) (i : Nat) (wv u) (wv qd) ∧ TakeI X vN n m j g i cr bo u qd u0)
  (fun _ x _ => (n - x.t19).toNat)
  (fun c x _ => ∃ (v : Sl) (j g k cr : Nat) (u qd u0 l' : List Nat), c = C_ref1_NatDiv_4.mk (sh : Nat) v (n : Nat) (m - n) (m - n) (j : Nat) ((g - 1 : Nat) : Int) ∧ x = L_ref1_NatDiv_4.mk (cr : Nat) (k : Nat) (wv u) (wv qd) ∧ 0 < g ∧ BackI X vN n m j g k cr u qd u0 l')
  (fun _ x _ => (n - x.t23).toNat)
  (hcmp.mono fun v V1 l1 hv => ⟨_, hv, fun hlt => ?_, fun hge => ⟨fun h1 => ?_, fun h2 => ?_⟩⟩)
 · -- a below b
   have hlt : a < b := by
    rcases Nat.lt_or_ge a b with h | h
    · exact h
    · exfalso; revert hlt; rw [if_neg (by omega)]; split <;> simp
   exact ⟨_, _, rfl, by rw [Nat.div_eq_of_lt hlt]; exact NatAt.zero V1, by rw [Nat.mod_eq_of_lt hlt]; exact hs.le l1⟩
 · -- one word
   have h1 : n = 1 := by have : (t.len : Int) = 1 := (by simpa using h1); omega
   have hb1 : b < 4294967296 := by have := lt_wn b; rw [hnb, h1] at this; simpa using this
   have hd : (dig b).getD 0 0 = b := by rw [dig_getD]; simp; omega
   have hg := (ht.le l1).get (i := 0) (by omega) (by omega)
   simp only [Int.toNat_zero, hd] at hg
   refine ⟨⟨by omega, by omega, ht.isSome (by omega)⟩, _, hg, ?_⟩
   refine (ref1_natDigit_spec (hs.le l1) (by omega) (by omega) hb1).mono fun v V2 l2 ⟨q, hv, hq⟩ => ⟨q, _, hv, ?_⟩
   have hmod : a % b < b := Nat.mod_lt _ (by omega)
   rw [u64w (by omega) (by omega)]
   refine (ref1_NatOf_spec (by omega) (by omega)).mono fun v V3 l3 ⟨r, hv, hr⟩ => ⟨r, hv, q, r, rfl, hq.le l3, ?_⟩
   rw [Int.toNat_natCast] at hr; exact hr
 -- many words
 have hab : b ≤ a := by
  rcases Nat.lt_or_ge a b with h | h
  · exfalso; revert hge; rw [if_pos h]; simp
  · exact h
 have hnm : n ≤ s.len := by rw [← hna, ← hnb]; exact wn_mono hab
 have hn0 : n ≠ 0 := by rw [← hnb]; intro e; exact hb0 (wn_eq_zero.1 e)
 have hn2 : 2 ≤ n := by have : ¬ (t.len : Int) = 1 := (by simpa using h2); omega
 have E2 : IntKind.i64.wrap ((s.len : Int) + 1) = (m : Nat) := by rw [i64w (by omega) (by omega)]; omega
 have E3 : IntKind.i64.wrap ((m : Int) - (n : Int)) = ((m - n : Nat) : Int) := by rw [i64w (by omega) (by omega)]; omega
 have E1 : IntKind.i64.wrap ((n : Int) - 1) = ((n - 1 : Nat) : Int) := by rw [i64w (by omega) (by omega)]; omega
 have E4 : IntKind.i64.wrap ((n : Int) - 2) = ((n - 2 : Nat) : Int) := by rw [i64w (by omega) (by omega)]; omega
 have E5 : IntKind.i64.wrap (((m - n : Nat) : Int) - 1) = ((m - n : Nat) : Int) - 1 := by rw [i64w (by omega) (by omega)]
 have E6 : (t.len : Int) = (n : Nat) := by omega
 have hblb := bl_wn hb0
 have hbltop : bl ((dig b).getD (wn b - 1) 0) ≤ 32 := by
  have h3 := (top_bounds hb0).2.2
  have := bl_le h3
  have := (WB_dig b).getD (wn b - 1)
  have := (Nat.pow_lt_pow_iff_right (a := 2) (n := bl ((dig b).getD (wn b - 1) 0) - 1) (m := 32) (by omega)).1 (by omega)
  omega
 have Esh : IntKind.i64.wrap (IntKind.i64.wrap (32 * (t.len : Int)) - (bl b : Nat)) = (sh : Nat) := by
  rw [i64w (n := 32 * (t.len : Int)) (by omega) (by omega), i64w (by omega) (by omega)]; omega
 refine (ref1_NatBits_spec (ht.le l1) (by omega)).mono fun v V4 l4 hv => ⟨_, hv, ?_⟩
 simp only [Esh]
 refine (ref1_NatShl_spec (ht.le (View.le_trans l1 l4)) (by omega) (by omega)).mono fun v V5 l5 ⟨w, hv, hw⟩ => ⟨w, hv, ?_⟩
 rw [← hvN] at hw
 have hwl : w.len = n := by have := hw.len; simp only [wn] at hwv; omega
 simp only [E2, Int.toNat_natCast, hwl, E3, E1, E4, E5]
 refine ⟨⟨by omega, by omega, by omega, by omega⟩, (ref1_NatShl_spec (hs.le (View.le_trans l1 (View.le_trans l4 l5))) (by omega) (by omega)).mono fun v V6 l6 ⟨ua, hv, hua⟩ => ⟨ua, hv, ?_⟩⟩
 rw [← hX] at hua
 have hXm : wn X ≤ m := by
  refine wn_le_of_lt ?_
  rw [hX, hm, Nat.pow_succ]
  exact Nat.mul_lt_mul'' hal (Nat.lt_of_le_of_lt (Nat.pow_le_pow_right (by omega) hsh1) (by omega))
 have hual := hua.len
 simp only [wn] at hXm
 refine ⟨wv (dig X), Words.has hua, by rw [wv_length]; omega, ?_, ?_, ?_, ⟨by omega, by omega, by omega, by omega⟩, ?_⟩
 · by_cases h0 : ua.len = 0
   · left; have : (dig X).length = 0 := by omega
     rw [List.eq_nil_of_length_eq_zero this]; rfl
   · right; exact hua.isSome (by omega)
 · intro v hv; simp only [wv, List.mem_map] at hv; obtain ⟨d, _, rfl⟩ := hv; rfl
 · rw [wv_zeros, wv_length, wv_length]; simp; omega
 rw [wv_zeros, wv_zeros, setL_wv m (dig X) (by omega)]
 have hq0 : seg (dig X ++ List.replicate (m - (dig X).length) 0) 0 m = X := by
  rw [seg_all (by simp; omega), wval_pad, wval_dig]
 have h7 := div_first hal hm hX hsh1 (by omega) (by omega) hlo _ hq0
 refine ⟨⟨w, m - n, _, _, rfl, hw.le l6, rfl, by omega, ?_, by simp; omega, WB.zeros _, by simp, ?_, h7⟩, ?_⟩
 · intro d hd
   rcases List.mem_append.1 hd with hd | hd
   · exact WB_dig X d hd
   · rw [(List.mem_replicate.1 hd).2]; omega
 · rw [show m - n + n = m by omega, hq0, Nat.sub_self, seg_zero]; simp
 rintro _ V7 hle7 ⟨w', j, u, qd, hc, hw7, rfl, hD⟩
 obtain rfl : w' = w := by simp only [C_ref1_NatDiv_0.mk.injEq] at hc; exact hc.2.1.symm
 have hjl := hD.jl
 have hlu := hD.lu
 have hlq := hD.lq
 have hwu := hD.wu
 simp only [sh32_64]
 refine ⟨fun hp => ?_, fun hp b1 V12 l12 hb1 b2 V13 l13 hb2 => ?_⟩
 · simp only [ge_iff_le, decide_eq_true_eq] at hp
   obtain ⟨i, rfl⟩ : ∃ i, j = i + 1 := ⟨j - 1, by omega⟩
   have e0 : (((i + 1 : Nat) : Int) - 1) = (i : Nat) := by omega
   simp only [e0]
   have F1 : IntKind.i64.wrap ((i : Int) + (n : Int)) = ((i + n : Nat) : Int) := by rw [i64w (by omega) (by omega)]; omega
   have F2 : IntKind.i64.wrap (((i + n : Nat) : Int) - 1) = ((i + n - 1 : Nat) : Int) := by rw [i64w (by omega) (by omega)]; omega
   have F3 : IntKind.i64.wrap (((i + n : Nat) : Int) - 2) = ((i + n - 2 : Nat) : Int) := by rw [i64w (by omega) (by omega)]; omega
   have F4 : IntKind.i64.wrap ((i : Int) - 1) = (i : Int) - 1 := by rw [i64w (by omega) (by omega)]
   simp only [F1, F2, F3, F4, Int.toNat_natCast, Nat.zero_add, Nat.mul_one]
   have G := guess_of hwu hn2 hwv hD.lt
   rw [← hv1, ← hv2] at G
   obtain ⟨W, hW⟩ : ∃ W, W = seg u i (n + 1) := ⟨_, rfl⟩
   obtain ⟨u2, hu2⟩ : ∃ x, x = u.getD (i + n) 0 := ⟨_, rfl⟩
   obtain ⟨u1, hu1⟩ : ∃ x, x = u.getD (i + n - 1) 0 := ⟨_, rfl⟩
   obtain ⟨u0, hu0⟩ : ∃ x, x = u.getD (i + n - 2) 0 := ⟨_, rfl⟩
   rw [← hW, ← hu2, ← hu1, ← hu0] at G
   have hu2l : u2 < 4294967296 := by rw [hu2]; exact hwu.getD _
   have hv1l := G.h1
   have hv1p := G.pos
   have hu1l := G.k1
   have hv1b : 2147483648 ≤ v1 := by
    have hvn0 : vN ≠ 0 := by rintro rfl; rw [wn_zero] at hwv; omega
    have h3 := (top_bounds hvn0).2.1
    rw [hwv, ← hv1] at h3
    have h4 : 2147483648 * 4294967296 ^ (n - 1) < (v1 + 1) * 4294967296 ^ (n - 1) := by omega
    have := Nat.lt_of_mul_lt_mul_right h4
    omega
   have gv1 := (hw7).get (i := ((n - 1 : Nat) : Int)) (by omega) (by omega)
   rw [Int.toNat_natCast, ← hv1, Nat.mul_one] at gv1
   have gv2 := (hw7).get (i := ((n - 2 : Nat) : Int)) (by omega) (by omega)
   rw [Int.toNat_natCast, ← hv2, Nat.mul_one] at gv2
   have hws := hw7.isSome (by omega)
   have hor : BitVec.toNat ((BitVec.ofInt IntKind.u64.bits (IntKind.u64.wrap ((IntKind.u64.wrap (u2 : Int)) * 4294967296))) ||| (BitVec.ofInt IntKind.u64.bits (IntKind.u64.wrap (u1 : Int)))) = u2 * 4294967296 + u1 := by
    rw [u64w (n := (u2 : Int)) (by omega) (by omega), u64w (n := (u1 : Int)) (by omega) (by omega), u64w (by omega) (by omega), show (u2 : Int) * 4294967296 = ((u2 * 4294967296 : Nat) : Int) by omega]
    exact or64 hu1l hu2l
   refine ⟨⟨by omega, by omega⟩, _, wv_get (by omega), ⟨by omega, by omega⟩, _, wv_get (by omega), ⟨by omega, by omega, hws⟩, _, gv1, ?_, ⟨by omega, by omega, hws⟩, _, gv1, ?_, ⟨?_, ?_⟩, ?_⟩
   · rw [u64w (by omega) (by omega)]; omega
   · rw [u64w (by omega) (by omega)]; omega
   · -- the first guess
     rw [← hu2, ← hu1, hor, u64w (n := (v1 : Int)) (by omega) (by omega), u64w (n := ((u2 * 4294967296 + u1 : Nat) : Int)) (by omega) (by omega), ← Int.ofNat_tdiv, ← Int.ofNat_tmod]
     have h3 : (u2 * 4294967296 + u1) / v1 ≤ u2 * 4294967296 + u1 := Nat.div_le_self _ _
     have h4 : (u2 * 4294967296 + u1) % v1 < v1 := Nat.mod_lt _ hv1p
     have h5 := Nat.div_add_mod' (u2 * 4294967296 + u1) v1
     have h6 := G.init
     generalize (u2 * 4294967296 + u1) / v1 = g at *
     generalize (u2 * 4294967296 + u1) % v1 = r at *
     rw [u64w (n := (g : Int)) (by omega) (by omega)]
     refine ⟨w', i, g, r, u, qd, rfl, rfl, by omega, ?_, ?_⟩
     · rw [← hu2, ← hu1]; exact h5
     · rw [← hW]; exact h6
   · -- the guess is put down
     rintro _ V9 l9 ⟨w2, i2, g, r, u', qd', hc2, rfl, hr, hgr, hge⟩
     simp only [C_ref1_NatDiv_2.mk.injEq] at hc2
     obtain ⟨_, rfl, _, _, _, hi2, hu', hq'⟩ := hc2
     obtain rfl : i2 = i := by omega
     obtain rfl := wv_inj hu'
     obtain rfl := wv_inj hq'
     rw [← hu2, ← hu1] at hgr
     rw [← hW] at hge
     have hgl : g < 8589934592 := by
      rcases Nat.lt_or_ge g 8589934592 with h | h
      · exact h
      · exfalso
        have := Nat.mul_le_mul h hv1b
        omega
     have gv1' := View.load_le l9 gv1
     have gv2' := View.load_le l9 gv2
     simp only
     -- a step down
     have down : 0 < g → W / vN ≤ g - 1 → (4294967296 ≤ r + v1 → (g - 1 - 1) * vN ≤ W ∧ g - 1 < 4294967296) →
      ((decide (((IntKind.u64.wrap ((r : Int) + (IntKind.u64.wrap (v1 : Int)))) : Int) ≥ 4294967296)) = true →
        ∃ (v : Sl) (j g' : Nat) (u1 qd1 : List Nat), C_ref1_NatDiv_1.mk (sh : Nat) w' (n : Nat) (m - n) (m - n) (i2 : Nat) (wv u) (wv qd) = C_ref1_NatDiv_1.mk (sh : Nat) v (n : Nat) (m - n) (m - n) (j : Nat) (wv u1) (wv qd1) ∧ L_ref1_NatDiv_1.mk (IntKind.u64.wrap ((g : Int) - 1)) = L_ref1_NatDiv_1.mk (g' : Nat) ∧ g' < 4294967296 ∧ seg u1 j (n + 1) / vN ≤ g' ∧ (g' - 1) * vN ≤ seg u1 j (n + 1)) ∧
      ((decide (((IntKind.u64.wrap ((r : Int) + (IntKind.u64.wrap (v1 : Int)))) : Int) ≥ 4294967296)) = false →
        (∃ (v : Sl) (j g' r' : Nat) (u1 qd1 : List Nat), C_ref1_NatDiv_2.mk (sh : Nat) w' (n : Nat) (m - n) (m - n) (i2 : Nat) (wv u) (wv qd) = C_ref1_NatDiv_2.mk (sh : Nat) v (n : Nat) (m - n) (m - n) (j : Nat) (wv u1) (wv qd1) ∧
          L_ref1_NatDiv_2.mk (IntKind.u64.wrap ((g : Int) - 1)) (IntKind.u64.wrap ((r : Int) + (IntKind.u64.wrap (v1 : Int)))) = L_ref1_NatDiv_2.mk (g' : Nat) (r' : Nat) ∧ r' < 4294967296 ∧ g' * v1 + r' = u1.getD (j + n) 0 * 4294967296 + u1.getD (j + n - 1) 0 ∧ seg u1 j (n + 1) / vN ≤ g') ∧
        (IntKind.u64.wrap ((g : Int) - 1)).toNat < (g : Int).toNat) := by
      intro h0 h1 h2
      rw [u64w (n := (v1 : Int)) (by omega) (by omega), u64w (n := (r : Int) + v1) (by omega) (by omega), u64w (n := (g : Int) - 1) (by omega) (by omega)]
      have e1 : (g : Int) - 1 = ((g - 1 : Nat) : Int) := by omega
      have e2 : (r : Int) + v1 = ((r + v1 : Nat) : Int) := by omega
      rw [e1, e2]
      refine ⟨fun h => ?_, fun h => ?_⟩
      · simp only [ge_iff_le, decide_eq_true_eq] at h
        obtain ⟨h3, h4⟩ := h2 (by omega)
        exact ⟨w', i2, g - 1, u, qd, rfl, rfl, h4, by rw [← hW]; exact h1, by rw [← hW]; exact h3⟩
      · simp only [ge_iff_le, decide_eq_false_iff_not] at h
        refine ⟨⟨w', i2, g - 1, r + v1, u, qd, rfl, rfl, by omega, ?_, by rw [← hW]; exact h1⟩, by omega⟩
        rw [← hu2, ← hu1, ← hgr]
        obtain ⟨k, rfl⟩ : ∃ k, g = k + 1 := ⟨g - 1, by omega⟩
        rw [Nat.succ_mul, Nat.add_sub_cancel]; omega
     refine ⟨fun hp2 => ⟨fun _ => ?_, fun h => by cases h⟩, fun hp2 => ?_⟩
     · simp only [ge_iff_le, decide_eq_true_eq] at hp2
       have hq := G.quo
       refine ⟨⟨by omega, by omega, hws⟩, _, gv1', ?_⟩
       exact down (by omega) (by omega) (fun h => (G.brk hgr (by omega) h).symm)
     · simp only [ge_iff_le, decide_eq_false_iff_not] at hp2
       have hg32 : g < 4294967296 := by omega
       have hv2l := G.h2
       have hm1 := mul_word hg32 hv2l
       have hu0l := G.k0
       refine ⟨⟨by omega, by omega, hws⟩, _, gv2', ⟨by omega, by omega⟩, _, wv_get (by omega), ?_⟩
       rw [← hu0]
       have hor2 : BitVec.toNat ((BitVec.ofInt IntKind.u64.bits (IntKind.u64.wrap ((r : Int) * 4294967296))) ||| (BitVec.ofInt IntKind.u64.bits (IntKind.u64.wrap (u0 : Int)))) = r * 4294967296 + u0 := by
        rw [u64w (n := (u0 : Int)) (by omega) (by omega), u64w (by omega) (by omega), show (r : Int) * 4294967296 = ((r * 4294967296 : Nat) : Int) by omega]
        exact or64 hu0l hr
       rw [hor2, u64w (n := (v2 : Int)) (by omega) (by omega), ← Int.natCast_mul, u64w (n := ((g * v2 : Nat) : Int)) (by omega) (by omega), u64w (n := ((r * 4294967296 + u0 : Nat) : Int)) (by omega) (by omega)]
       refine ⟨fun hp3 => ?_, fun hp3 => ?_⟩
       · simp only [gt_iff_lt, decide_eq_true_eq] at hp3
         have hd := G.dec hgr (by omega)
         refine ⟨⟨by omega, by omega, hws⟩, _, gv1', ?_⟩
         have hg0 : 0 < g := Nat.lt_of_le_of_lt (Nat.zero_le _) hd
         exact down hg0 (Nat.le_sub_one_of_lt hd) (fun h => (G.brk hgr hg0 h).symm)
       · simp only [gt_iff_lt, decide_eq_false_iff_not] at hp3
         exact ⟨w', i2, g, u, qd, rfl, rfl, hg32, by rw [← hW]; exact hge, by rw [← hW]; exact G.exit hgr hg32 (by omega)⟩
   · -- the guess is taken
     rintro _ V8 l8 ⟨w2, i2, g, u', qd', hc2, rfl, hg32, hge, hgl⟩
     simp only [C_ref1_NatDiv_1.mk.injEq] at hc2
     obtain ⟨_, rfl, _, _, _, hi2, hu', hq'⟩ := hc2
     obtain rfl : i2 = i := by omega
     obtain rfl := wv_inj hu'
     obtain rfl := wv_inj hq'
     refine ⟨⟨w', i2, g, 0, 0, 0, u, qd, u, rfl, rfl, hD, hn2, by omega, hwv, hg32, hge, hgl, by omega, hwu, hlu, by omega, by omega, fun _ _ => rfl, by simp [seg_zero, wval]⟩, ?_⟩
     clear G hge hgl gv1 gv2 hor hq0 h7 hXm hual hua hcmp hlo hX hvN hsh hblb hbltop Esh hv1 hv2 hu2 hu1 hu0 hW
     rintro _ V10 l10 ⟨w2, i9, g9, k, c0, b0, u9, qd9, u00, hc9, rfl, hT⟩
     simp only [C_ref1_NatDiv_3.mk.injEq] at hc9
     obtain ⟨_, rfl, _, _, _, hi9, hgg⟩ := hc9
     obtain rfl : i2 = i9 := by omega
     obtain rfl : g = g9 := by omega
     have hjn := hT.jn
     have hkn := hT.i_le
     have hlu9 := hT.lu
     have hlq9 := hT.div.lq
     have hme : ((i2 : Int) - 1 + 1).toNat < (((i2 + 1 : Nat) : Int)).toNat := by omega
     simp only [sh63_64, Int.toNat_natCast]
     refine ⟨fun hp2 => ?_, fun hp2 => ?_⟩
     · simp only [decide_eq_true_eq] at hp2
       have hkn : k < n := by omega
       have K1 : IntKind.i64.wrap ((k : Int) + i2) = ((i2 + k : Nat) : Int) := by rw [i64w (by omega) (by omega)]; omega
       simp only [K1, Int.toNat_natCast]
       have gk := (hw7.le (View.le_trans l8 l10)).get (i := (k : Nat)) (by omega) (by omega)
       simp only [Int.toNat_natCast, Nat.mul_one] at gk
       refine ⟨⟨by omega, by omega, hws⟩, _, gk, ⟨by omega, by omega⟩, _, wv_get (by omega), ⟨by omega, by omega⟩, by rw [wv_length]; omega, ?_⟩
       obtain ⟨low, br, c, e1, e2, e3, hT'⟩ := hT.step hkn
       rw [e1, e2, e3, wv_set, i64w (n := (k : Int) + 1) (by omega) (by omega)]
       exact ⟨⟨w', i2, g, k + 1, c, br, _, qd9, u00, rfl, rfl, hT'⟩, by omega⟩
     simp only [decide_eq_false_iff_not] at hp2
     obtain rfl : n = k := by omega
     refine ⟨⟨by omega, by omega⟩, _, wv_get (by omega), ⟨by omega, by omega⟩, by rw [wv_length]; omega, ?_⟩
     obtain ⟨low, br, e1, e2, hl', hb1, hb0⟩ := hT.last
     rw [e1, e2, wv_set]
     refine ⟨fun hn1 => ?_, fun hn1 => ?_⟩
     · -- one too many: it is added back
       obtain ⟨hB, hg0⟩ := hb1 (by have : (br : Int) = 1 := (by simpa using hn1); omega)
       rw [u64w (n := (g : Int) - 1) (by omega) (by omega), show (g : Int) - 1 = ((g - 1 : Nat) : Int) by omega]
       refine ⟨⟨w', i2, g, 0, 0, _, qd9, u00, _, rfl, rfl, hg0, hB⟩, ?_⟩
       clear hT hB hb1 hb0 hl' e1 e2
       rintro _ V11 l11 ⟨w3, i3, g3, k3, cr, u3, qd3, u03, l3, hc3, rfl, hg3, hB⟩
       simp only [C_ref1_NatDiv_4.mk.injEq] at hc3
       obtain ⟨_, rfl, _, _, _, hi3, hg3'⟩ := hc3
       obtain rfl : i2 = i3 := by omega
       obtain rfl : g = g3 := by omega
       have hjn := hB.jn
       have hkn := hB.k_le
       have hlu3 := hB.lu
       have hlq3 := hB.div.lq
       simp only [Int.toNat_natCast]
       refine ⟨fun hp4 => ?_, fun hp4 => ?_⟩
       · simp only [decide_eq_true_eq] at hp4
         have hkn : k3 < n := by omega
         have K1 : IntKind.i64.wrap ((k3 : Int) + i2) = ((i2 + k3 : Nat) : Int) := by rw [i64w (by omega) (by omega)]; omega
         simp only [K1, Int.toNat_natCast]
         have gk := (hw7.le (View.le_trans l8 (View.le_trans l10 l11))).get (i := (k3 : Nat)) (by omega) (by omega)
         simp only [Int.toNat_natCast, Nat.mul_one] at gk
         refine ⟨⟨by omega, by omega⟩, _, wv_get (by omega), ⟨by omega, by omega, hws⟩, _, gk, ⟨by omega, by omega⟩, by rw [wv_length]; omega, ?_⟩
         obtain ⟨low, c, e1, e2, hB'⟩ := hB.step hkn
         rw [e1, e2, wv_set, i64w (n := (k3 : Int) + 1) (by omega) (by omega)]
         exact ⟨⟨w', i2, g, k3 + 1, c, _, qd3, u03, l3, rfl, rfl, hg3, hB'⟩, by omega⟩
       · simp only [decide_eq_false_iff_not] at hp4
         obtain rfl : n = k3 := by omega
         refine ⟨⟨by omega, by omega⟩, _, wv_get (by omega), ⟨by omega, by omega⟩, by rw [wv_length]; omega, ⟨by omega, by omega⟩, by rw [wv_length]; omega, ?_⟩
         obtain ⟨low, e1, hD'⟩ := hB.last
         rw [u32w (n := ((g - 1 : Nat) : Int)) (by omega) (by omega), e1, wv_set, wv_set]
         exact ⟨⟨w', i2, _, _, rfl, hw7.le (View.le_trans l8 (View.le_trans l10 l11)), rfl, hD'⟩, hme⟩
     · -- the guess is right
       have hD' := hb0 (fun h => by rw [h] at hn1; simp at hn1)
       rw [u32w (n := (g : Int)) (by omega) (by omega), wv_set]
       exact ⟨⟨by omega, by omega⟩, by rw [wv_length]; omega, ⟨w', i2, _, _, rfl, hw7.le (View.le_trans l8 l10), rfl, hD'⟩, hme⟩
 · -- the end
   simp only [ge_iff_le, decide_eq_false_iff_not] at hp
   obtain rfl : j = 0 := by omega
   have heq := hD.eq
   have hlt0 := hD.lt
   rw [Nat.zero_add, Nat.pow_zero, Nat.one_mul, Nat.sub_zero] at heq
   obtain ⟨hq1, hr1⟩ := div_last hX hvN hb0 heq hlt0
   have hwq : Words V12 (Sl.mk (some (Addr.mk b1 0 none)) (m - n) (m - n)) qd := Words.of_block hb1 (by omega) (Nat.le_refl _) hD.wq
   have hwr : Words V13 (Sl.mk (some (Addr.mk b2 0 none)) m m) u := Words.of_block hb2 (by omega) (Nat.le_refl _) hwu
   refine ⟨⟨by omega, by omega, by omega⟩, (ref1_trim_spec (Words.le l13 hwq) (by omega)).mono fun v V14 l14 ⟨q, hv, hq⟩ => ⟨q, hv, ?_⟩⟩
   have hwr2 : Words V14 (Sl.mk (some (Addr.mk b2 0 none)) n m) (u.take n) := Words.le l14 (Words.pre hwr (k := n) (c := m) (by omega) (by omega))
   have hl50 : (u.take n).length ≤ 2 ^ 50 := by rw [List.length_take]; omega
   have hz : Int.toNat 0 = 0 := rfl
   have hm0 : ¬ m = 0 := by omega
   have hadd : Option.map (fun q => Addr.add q 0) (some (Addr.mk b2 0 none)) = some (Addr.mk b2 0 none) := by simp [Addr.add]
   simp only [hz, hm0, if_false, Nat.zero_mul, hadd, Nat.sub_zero]
   have htr := ref1_trim_spec hwr2 hl50
   refine htr.mono fun v V15 l15 ⟨r, hv, hr⟩ => ⟨r, hv, ?_⟩
   rw [← seg_take] at hr
   have hrw : wn (seg u 0 n) ≤ 2 ^ 44 := by
    have := wn_le_of_lt (seg_lt hwu 0 n)
    omega
   refine (ref1_NatShr_spec hr hrw (by omega)).mono fun v V16 l16 ⟨r2, hv, hr2⟩ => ⟨r2, hv, q, r2, rfl, ?_, ?_⟩
   · rw [← hq1, seg_all (by omega)]; exact hq.le (View.le_trans l15 l16)
   · rw [← hr1]; exact hr2

theorem ref1_NatGcd_spec {V : View} {s t : Sl} {a b : Nat} (hs : NatAt V s a) (ht : NatAt V t b) (ha : wn a ≤ 2 ^ 43) (hb : wn b ≤ 2 ^ 43) :
 CallV Tryz.prog n_ref1_NatGcd #[s.v, t.v] V fun v V' => ∃ r : Sl, v = r.v ∧ NatAt V' r (Nat.gcd a b) := by
 refine ref1_NatGcd_vc s t V _ (fun _ x V' => ∃ a' b', NatAt V' x.t0 a' ∧ NatAt V' x.t1 b' ∧ wn a' ≤ 2 ^ 43 ∧ wn b' ≤ 2 ^ 43 ∧ Nat.gcd a' b' = Nat.gcd a b) (fun _ x V' => natVal V' x.t1) ⟨⟨a, b, hs, ht, ha, hb, rfl⟩, ?_⟩
 rintro ⟨x, y⟩ V1 l1 ⟨a', b', hx, hy, wa, wb, hg⟩
 simp only at hx hy ⊢
 have hyl := hy.len
 refine ⟨fun hp => ?_, fun hp => ?_⟩
 · simp only [gt_iff_lt, decide_eq_true_eq] at hp
   have hb0 : b' ≠ 0 := fun e => by rw [← hy.len_zero] at e; omega
   refine (ref1_NatDiv_spec hx hy wa hb0).mono fun v V2 l2 ⟨q, r, hv, hq, hr⟩ => ⟨q, r, hv, ?_⟩
   have hlt : a' % b' < b' := Nat.mod_lt _ (by omega)
   have hwr : wn (a' % b') ≤ wn b' := wn_mono (Nat.le_of_lt hlt)
   refine ⟨⟨b', a' % b', hy.le l2, hr, wb, by omega, ?_⟩, ?_⟩
   · rw [Nat.gcd_comm, ← Nat.gcd_rec, Nat.gcd_comm]; exact hg
   · rw [natVal_eq hr, natVal_eq hy]; exact hlt
 · simp only [gt_iff_lt, decide_eq_false_iff_not] at hp
   have hb0 : b' = 0 := hy.len_zero.1 (by omega)
   subst hb0
   rw [Nat.gcd_zero_right] at hg
   exact ⟨x, rfl, by rw [← hg]; exact hx⟩
theorem ref1_signed_spec {V : View} {s : Sl} {n : Nat} (neg : Bool) (h : NatAt V s n) :
 CallV Tryz.prog n_ref1_signed #[.bool neg, s.v] V fun v V' => ∃ r : WhV, v = r.val ∧ IntAt V' r (if neg = true then -(n : Int) else n) := by
 have hl := h.len_zero
 refine ref1_signed_vc neg s V _ ⟨fun hn => ⟨_, rfl, ?_, ?_⟩, fun hn => ⟨_, rfl, ?_, ?_⟩⟩
 · rw [if_pos hn]; simp only [gt_iff_lt, decide_eq_decide]; omega
 · rw [if_pos hn]; simpa using h
 · rw [if_neg (by simp [hn])]; symm; simp only [decide_eq_false_iff_not]; omega
 · rw [if_neg (by simp [hn])]; simpa using h
theorem ref1_IntOf_spec {V : View} {n : Int} (h0 : -9223372036854775808 ≤ n) (h1 : n ≤ 9223372036854775807) :
 CallV Tryz.prog n_ref1_IntOf #[.int .i64 n] V fun v V' => ∃ r : WhV, v = r.val ∧ IntAt V' r n := by
 refine ref1_IntOf_vc n V _ ⟨fun hn => ?_, fun hn => ?_⟩
 · simp only [decide_eq_true_eq] at hn
   have e : IntKind.u64.wrap (IntKind.i64.wrap (0 - n)) = -n := by
    by_cases hm : n = -9223372036854775808
    · subst hm; decide
    · rw [i64w (by omega) (by omega), u64w (by omega) (by omega)]; omega
   rw [e]
   refine (ref1_NatOf_spec (by omega) (by omega)).mono fun v V1 _ ⟨r, hv, hr⟩ => ⟨r, hv, _, rfl, by simp [hn], ?_⟩
   have e2 : n.natAbs = (-n).toNat := by omega
   rw [e2]; exact hr
 · simp only [decide_eq_false_iff_not] at hn
   rw [u64w (by omega) (by omega)]
   refine (ref1_NatOf_spec (by omega) (by omega)).mono fun v V1 _ ⟨r, hv, hr⟩ => ⟨r, hv, _, rfl, by simp [hn], ?_⟩
   have e2 : n.natAbs = n.toNat := by omega
   rw [e2]; exact hr
theorem ref1_IntNeg_spec {V : View} {x : WhV} {a : Int} (h : IntAt V x a) :
 CallV Tryz.prog n_ref1_IntNeg #[x.val] V fun v V' => ∃ r : WhV, v = r.val ∧ IntAt V' r (-a) := by
 refine ref1_IntNeg_vc x V _ ((ref1_signed_spec (!x.neg) h.2).mono fun v V1 _ ⟨r, hv, hr⟩ => ⟨r, hv, r, rfl, ?_⟩)
 have e : (if (!x.neg) = true then -(a.natAbs : Int) else (a.natAbs : Int)) = -a := by
  rw [h.1]; simp only [Bool.not_eq_true', decide_eq_false_iff_not]; split <;> omega
 rw [e] at hr; exact hr
theorem ref1_IntAdd_spec {V : View} {x y : WhV} {a b : Int} (hx : IntAt V x a) (hy : IntAt V y b) (ha : wn a.natAbs ≤ 2 ^ 43) (hb : wn b.natAbs ≤ 2 ^ 43) :
 CallV Tryz.prog n_ref1_IntAdd #[x.val, y.val] V fun v V' => ∃ r : WhV, v = r.val ∧ IntAt V' r (a + b) := by
 have h1 := hx.1
 have h2 := hy.1
 refine ref1_IntAdd_vc x y V _ ⟨fun hs => ?_, fun hs => ?_⟩
 · refine (ref1_NatAdd_spec hx.2 hy.2 (by omega) (by omega)).mono fun v V1 l1 ⟨r, hv, hr⟩ => ⟨r, hv, ?_⟩
   refine (ref1_signed_spec x.neg hr).mono fun v V2 _ ⟨w, hv, hw⟩ => ⟨w, hv, w, rfl, ?_⟩
   have e : (if x.neg = true then -((a.natAbs + b.natAbs : Nat) : Int) else ((a.natAbs + b.natAbs : Nat) : Int)) = a + b := by
    rw [h1, h2] at hs; rw [h1]
    by_cases p : a < 0 <;> by_cases q : b < 0 <;> simp [p, q] at hs ⊢ <;> omega
   rw [e] at hw; exact hw
 · refine (ref1_NatCmp_spec hx.2 hy.2 (by omega)).mono fun v V1 l1 hv => ⟨_, hv, fun hc => ?_, fun hc => ?_⟩
   · have hc : b.natAbs ≤ a.natAbs := by
       rcases Nat.lt_or_ge a.natAbs b.natAbs with h | h
       · rw [if_pos h] at hc; simp at hc
       · exact h
     refine (ref1_NatSub_spec (hx.2.le l1) (hy.2.le l1) (by omega) hc).mono fun v V2 l2 ⟨r, hv, hr⟩ => ⟨r, hv, ?_⟩
     refine (ref1_signed_spec x.neg hr).mono fun v V3 _ ⟨w, hv, hw⟩ => ⟨w, hv, w, rfl, ?_⟩
     have e : (if x.neg = true then -((a.natAbs - b.natAbs : Nat) : Int) else ((a.natAbs - b.natAbs : Nat) : Int)) = a + b := by
      rw [h1, h2] at hs; rw [h1]
      by_cases p : a < 0 <;> by_cases q : b < 0 <;> simp [p, q] at hs ⊢ <;> omega
     rw [e] at hw; exact hw
   · have hc : a.natAbs ≤ b.natAbs := by
       rcases Nat.lt_or_ge b.natAbs a.natAbs with h | h
       · rw [if_neg (by omega), if_neg (by omega)] at hc; simp at hc
       · exact h
     refine (ref1_NatSub_spec (hy.2.le l1) (hx.2.le l1) (by omega) hc).mono fun v V2 l2 ⟨r, hv, hr⟩ => ⟨r, hv, ?_⟩
     refine (ref1_signed_spec y.neg hr).mono fun v V3 _ ⟨w, hv, hw⟩ => ⟨w, hv, w, rfl, ?_⟩
     have e : (if y.neg = true then -((b.natAbs - a.natAbs : Nat) : Int) else ((b.natAbs - a.natAbs : Nat) : Int)) = a + b := by
      rw [h1, h2] at hs; rw [h2]
      by_cases p : a < 0 <;> by_cases q : b < 0 <;> simp [p, q] at hs ⊢ <;> omega
     rw [e] at hw; exact hw
theorem ref1_IntSub_spec {V : View} {x y : WhV} {a b : Int} (hx : IntAt V x a) (hy : IntAt V y b) (ha : wn a.natAbs ≤ 2 ^ 43) (hb : wn b.natAbs ≤ 2 ^ 43) :
 CallV Tryz.prog n_ref1_IntSub #[x.val, y.val] V fun v V' => ∃ r : WhV, v = r.val ∧ IntAt V' r (a - b) := by
 refine ref1_IntSub_vc x y V _ ((ref1_IntNeg_spec hy).mono fun v V1 l1 ⟨r, hv, hr⟩ => ⟨r, hv, ?_⟩)
 rw [Int.sub_eq_add_neg]
 exact (ref1_IntAdd_spec (hx.le l1) hr ha (by rw [Int.natAbs_neg]; exact hb)).mono fun v V2 _ ⟨w, hv, hw⟩ => ⟨w, hv, w, rfl, hw⟩
theorem ref1_IntMul_spec {V : View} {x y : WhV} {a b : Int} (hx : IntAt V x a) (hy : IntAt V y b) (ha : wn a.natAbs ≤ 2 ^ 43) (hb : wn b.natAbs ≤ 2 ^ 43) :
 CallV Tryz.prog n_ref1_IntMul #[x.val, y.val] V fun v V' => ∃ r : WhV, v = r.val ∧ IntAt V' r (a * b) := by
 refine ref1_IntMul_vc x y V _ ((ref1_NatMul_spec hx.2 hy.2 (by omega) (by omega)).mono fun v V1 l1 ⟨r, hv, hr⟩ => ⟨r, hv, ?_⟩)
 refine (ref1_signed_spec (!(x.neg == y.neg)) hr).mono fun v V2 _ ⟨w, hv, hw⟩ => ⟨w, hv, w, rfl, ?_⟩
 have e : (if (!(x.neg == y.neg)) = true then -((a.natAbs * b.natAbs : Nat) : Int) else ((a.natAbs * b.natAbs : Nat) : Int)) = a * b := by
  rw [sign_mul _ _ a b rfl rfl, hx.1, hy.1]
  by_cases p : a < 0 <;> by_cases q : b < 0 <;> simp [p, q]
 rw [e] at hw; exact hw
theorem NatAt.lit {V : View} {b n : Nat} (h : V b = some #[.int .u32 (n : Int)]) (h0 : n ≠ 0) (h1 : n < 4294967296) : NatAt V (Sl.mk (some (Addr.mk b 0 none)) 1 1) n := by
 have e : dig n = [n] := by
  have h2 : n / 4294967296 = 0 := Nat.div_eq_of_lt h1
  rw [dig_pos h0, h2, dig_zero, Nat.mod_eq_of_lt h1]
 unfold NatAt
 rw [e]
 exact Words.of_block (by rw [h]; rfl) rfl (Nat.le_refl _) (by intro d hd; simp at hd; omega)
theorem dig_one : dig 1 = [1] := by rw [dig_pos (by omega)]; simp [dig_zero]
theorem IntAt.ofNat {V : View} {s : Sl} {n : Nat} (h : NatAt V s n) : IntAt V (WhV.mk false s) (n : Int) := ⟨by simp, h⟩
theorem ref1_Make_spec {V : View} {x y : WhV} {s : Sl} {z : Cq} {a b : Int} {d : Nat} (hx : IntAt V x a) (hy : IntAt V y b) (hs : NatAt V s d) (hz : Rep z a b d) (ha : wn a.natAbs ≤ 2 ^ 43) (hb : wn b.natAbs ≤ 2 ^ 43) (hd : wn d ≤ 2 ^ 43) :
 CallV Tryz.prog n_ref1_Make #[x.val, y.val, s.v] V fun v V' => ∃ r : NumV, v = r.val ∧ QAt V' r z := by
 obtain ⟨e1, e2, e3⟩ := hz.eqs
 have hp := gcd3_pos a b hz.pos
 have d1 := gcd3_dvd1 a b d
 have d2 := gcd3_dvd2 a b d
 have d3 := gcd3_dvd3 a b d
 refine ref1_Make_vc x y s V _ ((ref1_NatGcd_spec hx.2 hy.2 ha hb).mono fun v V1 l1 ⟨r1, hv, h1⟩ => ⟨r1, hv, ?_⟩)
 have hw1 : wn (Nat.gcd a.natAbs b.natAbs) ≤ 2 ^ 43 := by
  rcases Nat.eq_zero_or_pos a.natAbs with h | h
  · rw [h, Nat.gcd_zero_left]; exact hb
  · exact Nat.le_trans (wn_mono (Nat.le_of_dvd h (Nat.gcd_dvd_left _ _))) ha
 refine (ref1_NatGcd_spec h1 (hs.le l1) hw1 hd).mono fun v V2 l2 ⟨r2, hv, h2⟩ => ⟨r2, hv, ?_⟩
 have hg : Nat.gcd (Nat.gcd a.natAbs b.natAbs) d = gcd3 a b d := rfl
 rw [hg] at h2
 have l02 := View.le_trans l1 l2
 have h2l := h2.len
 have many : gcd3 a b d ≠ 1 → CallV Tryz.prog n_ref1_NatDiv #[x.mag.v, r2.v] V2 fun v V8 => ∃ (r11 : Sl) (r12 : Sl), v = .tuple #[r11.v, r12.v] ∧
  CallV Tryz.prog n_ref1_NatDiv #[y.mag.v, r2.v] V8 fun v V9 => ∃ (r13 : Sl) (r14 : Sl), v = .tuple #[r13.v, r14.v] ∧
  CallV Tryz.prog n_ref1_NatDiv #[s.v, r2.v] V9 fun v V10 => ∃ (r15 : Sl) (r16 : Sl), v = .tuple #[r15.v, r16.v] ∧
  CallV Tryz.prog n_ref1_signed #[.bool x.neg, r11.v] V10 fun v V11 => ∃ r17 : WhV, v = r17.val ∧
  CallV Tryz.prog n_ref1_signed #[.bool y.neg, r13.v] V11 fun v V12 => ∃ r18 : WhV, v = r18.val ∧ ∃ r : NumV, (NumV.mk r17 r18 r15).val = r.val ∧ QAt V12 r z := by
  intro _
  refine (ref1_NatDiv_spec (hx.2.le l02) h2 ha (by omega)).mono fun v V4 l4 ⟨q1, m1, hv, hq1, _⟩ => ⟨q1, m1, hv, ?_⟩
  refine (ref1_NatDiv_spec (hy.2.le (View.le_trans l02 l4)) (h2.le l4) hb (by omega)).mono fun v V5 l5 ⟨q2, m2, hv, hq2, _⟩ => ⟨q2, m2, hv, ?_⟩
  have l45 := View.le_trans l4 l5
  refine (ref1_NatDiv_spec (hs.le (View.le_trans l02 l45)) (h2.le l45) hd (by omega)).mono fun v V6 l6 ⟨q3, m3, hv, hq3, _⟩ => ⟨q3, m3, hv, ?_⟩
  refine (ref1_signed_spec x.neg (hq1.le (View.le_trans l5 l6))).mono fun v V7 l7 ⟨w1, hv, hw1⟩ => ⟨w1, hv, ?_⟩
  refine (ref1_signed_spec y.neg (hq2.le (View.le_trans l6 l7))).mono fun v V8 l8 ⟨w2, hv, hw2⟩ => ⟨w2, hv, _, rfl, ?_, ?_, ?_⟩
  · rw [e1]
    have e : (if x.neg = true then -((a.natAbs / gcd3 a b d : Nat) : Int) else ((a.natAbs / gcd3 a b d : Nat) : Int)) = a / (gcd3 a b d : Nat) := by
     have k1 := natAbs_div d1
     have k2 := div_lt_zero d1 hp
     rw [← k1, hx.1]
     have k3 : (a / (gcd3 a b d : Nat) < 0) ↔ a < 0 := by simpa using k2
     simp only [decide_eq_true_eq]
     split <;> omega
    rw [e] at hw1; exact hw1.le l8
  · rw [e2]
    have e : (if y.neg = true then -((b.natAbs / gcd3 a b d : Nat) : Int) else ((b.natAbs / gcd3 a b d : Nat) : Int)) = b / (gcd3 a b d : Nat) := by
     have k1 := natAbs_div d2
     have k2 := div_lt_zero d2 hp
     rw [← k1, hy.1]
     have k3 : (b / (gcd3 a b d : Nat) < 0) ↔ b < 0 := by simpa using k2
     simp only [decide_eq_true_eq]
     split <;> omega
    rw [e] at hw2; exact hw2
  · rw [e3]; exact hq3.le (View.le_trans l7 l8)
 refine ⟨fun hn => ?_, fun hn => ⟨fun h => absurd h (by simp), fun _ => ?_⟩⟩
 · have hn : r2.len = 1 := by have : (r2.len : Int) = 1 := (by simpa using hn); omega
   refine ⟨⟨by omega, by omega, h2.isSome (by omega)⟩, _, h2.get (by omega) (by omega), fun hw => ?_, fun hw => ?_⟩
   · have hw : (dig (gcd3 a b d)).getD 0 0 = 1 := by have : (((dig (gcd3 a b d)).getD 0 0 : Nat) : Int) = 1 := of_decide_eq_true (by rw [← hw]; rfl); omega
     have hg1 : gcd3 a b d = 1 := by
      rw [hn] at h2l
      have h3 := wval_dig (gcd3 a b d)
      obtain ⟨w, hw'⟩ : ∃ w, dig (gcd3 a b d) = [w] := List.length_eq_one_iff.1 h2l.symm
      rw [hw'] at hw h3
      simp [wval] at hw h3
      omega
     rw [hg1] at e1 e2 e3
     simp only [Int.natCast_one, Int.ediv_one] at e1 e2
     rw [Nat.div_one] at e3
     exact ⟨_, rfl, by rw [e1]; exact hx.le l02, by rw [e2]; exact hy.le l02, by rw [e3]; exact hs.le l02⟩
   · refine many fun h => ?_
     rw [h, dig_one] at hw; simp at hw
 · refine many fun h => ?_
   rw [h, dig_one] at h2l
   rw [h2l] at hn; simp at hn
theorem ref1_Whole_spec {V : View} {n : Int} (h0 : -9223372036854775808 ≤ n) (h1 : n ≤ 9223372036854775807) :
 CallV Tryz.prog n_ref1_Whole #[.int .i64 n] V fun v V' => ∃ r : NumV, v = r.val ∧ QAt V' r ⟨(n : Rat), 0⟩ := by
 obtain ⟨e1, e2, e3⟩ := Cq.ofInt_eqs n
 refine ref1_Whole_vc n V _ ((ref1_IntOf_spec h0 h1).mono fun v V1 _ ⟨r, hv, hr⟩ => ⟨r, hv, fun b V2 l2 _ hb => ⟨_, rfl, by rw [e1]; exact hr.le l2, by rw [e2]; exact IntAt.zero _, by rw [e3]; exact NatAt.lit hb (by omega) (by omega)⟩⟩)
theorem ref1_New_spec {V : View} {p q d : Int} (p0 : -9223372036854775808 ≤ p) (p1 : p ≤ 9223372036854775807) (q0 : -9223372036854775808 ≤ q) (q1 : q ≤ 9223372036854775807) (d0 : -9223372036854775808 ≤ d) (d1 : d ≤ 9223372036854775807) (hd : d ≠ 0) :
 CallV Tryz.prog n_ref1_New #[.int .i64 p, .int .i64 q, .int .i64 d] V fun v V' => ∃ r : NumV, v = .tuple #[r.val, .int .i64 0] ∧ QAt V' r ⟨(p : Rat) / (d : Rat), (q : Rat) / (d : Rat)⟩ := by
 refine ref1_New_vc p q d V _ ⟨fun h => ?_, fun _ => ?_⟩
 · exact absurd (by simpa using h) hd
 refine (ref1_IntOf_spec d0 d1).mono fun v V1 l1 ⟨c, hv, hc⟩ => ⟨c, hv, ?_⟩
 refine (ref1_IntOf_spec p0 p1).mono fun v V2 l2 ⟨a, hv, ha⟩ => ⟨a, hv, ?_⟩
 refine (ref1_IntOf_spec q0 q1).mono fun v V3 l3 ⟨b, hv, hb⟩ => ⟨b, hv, fun hn => ?_, fun hn => ?_⟩
 · have hneg : d < 0 := by have := hc.1; rw [hn] at this; simpa using this.symm
   refine (ref1_IntNeg_spec (ha.le l3)).mono fun v V4 l4 ⟨a', hv, ha'⟩ => ⟨a', hv, ?_⟩
   refine (ref1_IntNeg_spec (hb.le l4)).mono fun v V5 l5 ⟨b', hv, hb'⟩ => ⟨b', hv, ?_⟩
   refine (ref1_Make_spec (ha'.le l5) hb' (hc.2.le (View.le_trans l2 (View.le_trans l3 (View.le_trans l4 l5)))) ?_ (wn64 (by omega)) (wn64 (by omega)) (wn64 (by omega))).mono fun v V6 l6 ⟨r, hv, hr⟩ => ⟨r, hv, r, rfl, hr⟩
   have e : ((d.natAbs : Nat) : Rat) = -(d : Rat) := by
    have : (d.natAbs : Int) = -d := by omega
    rw [← Rat.intCast_natCast, this]; push_cast; rfl
   refine ⟨by omega, ?_, ?_⟩ <;> (simp only [e]; push_cast; rw [Rat.div_def, Rat.div_def]; grind)
 · have hpos : ¬ d < 0 := by have := hc.1; rw [hn] at this; simpa using this.symm
   refine (ref1_Make_spec (ha.le l3) hb (hc.2.le (View.le_trans l2 l3)) ?_ (wn64 (by omega)) (wn64 (by omega)) (wn64 (by omega))).mono fun v V6 l6 ⟨r, hv, hr⟩ => ⟨r, hv, r, rfl, hr⟩
   have e : ((d.natAbs : Nat) : Rat) = (d : Rat) := by
    have : (d.natAbs : Int) = d := by omega
    rw [← Rat.intCast_natCast, this]
   refine ⟨by omega, ?_, ?_⟩ <;> simp only [e]
theorem ref1_Add_spec {V : View} {x y : NumV} {z w : Cq} (hx : QAt V x z) (hy : QAt V y w) (hz : z.sz ≤ 2 ^ 40) (hw : w.sz ≤ 2 ^ 40) :
 CallV Tryz.prog n_ref1_Add #[x.val, y.val] V fun v V' => ∃ r : NumV, v = r.val ∧ QAt V' r (z + w) := by
 have zA := Cq.wA hz; have zB := Cq.wB hz; have zD := Cq.wD hz
 have wA := Cq.wA hw; have wB := Cq.wB hw; have wD := Cq.wD hw
 have zD' : wn (z.D : Int).natAbs ≤ 2 ^ 35 := zD
 have wD' : wn (w.D : Int).natAbs ≤ 2 ^ 35 := wD
 have s1 := wn_muli zA wD'; have s2 := wn_muli wA zD'; have s3 := wn_muli zB wD'; have s4 := wn_muli wB zD'
 have s5 := wn_addi s1 s2; have s6 := wn_addi s3 s4
 have s7 := wn_mul_le z.D w.D
 refine ref1_Add_vc x y V _ ((ref1_IntMul_spec hx.re (IntAt.ofNat hy.under) (by omega) (by omega)).mono fun v V1 l1 ⟨r1, hv, h1⟩ => ⟨r1, hv, ?_⟩)
 replace hx := hx.le l1; replace hy := hy.le l1
 refine (ref1_IntMul_spec hy.re (IntAt.ofNat hx.under) (by omega) (by omega)).mono fun v V2 l2 ⟨r2, hv, h2⟩ => ⟨r2, hv, ?_⟩
 replace hx := hx.le l2; replace hy := hy.le l2; replace h1 := h1.le l2
 refine (ref1_IntAdd_spec h1 h2 (by omega) (by omega)).mono fun v V3 l3 ⟨r3, hv, h3⟩ => ⟨r3, hv, ?_⟩
 replace hx := hx.le l3; replace hy := hy.le l3
 refine (ref1_IntMul_spec hx.im (IntAt.ofNat hy.under) (by omega) (by omega)).mono fun v V4 l4 ⟨r4, hv, h4⟩ => ⟨r4, hv, ?_⟩
 replace hx := hx.le l4; replace hy := hy.le l4; replace h3 := h3.le l4
 refine (ref1_IntMul_spec hy.im (IntAt.ofNat hx.under) (by omega) (by omega)).mono fun v V5 l5 ⟨r5, hv, h5⟩ => ⟨r5, hv, ?_⟩
 replace hx := hx.le l5; replace hy := hy.le l5; replace h3 := h3.le l5; replace h4 := h4.le l5
 refine (ref1_IntAdd_spec h4 h5 (by omega) (by omega)).mono fun v V6 l6 ⟨r6, hv, h6⟩ => ⟨r6, hv, ?_⟩
 replace hx := hx.le l6; replace hy := hy.le l6; replace h3 := h3.le l6
 refine (ref1_NatMul_spec hx.under hy.under (by omega) (by omega)).mono fun v V7 l7 ⟨r7, hv, h7⟩ => ⟨r7, hv, ?_⟩
 exact (ref1_Make_spec (h3.le l7) (h6.le l7) h7 (z.canon.rep.add w.canon.rep) (by omega) (by omega) (by omega)).mono fun v V10 _ ⟨r, hv, hr⟩ => ⟨r, hv, r, rfl, hr⟩
theorem ref1_Neg_spec {V : View} {x : NumV} {z : Cq} (hx : QAt V x z) : CallV Tryz.prog n_ref1_Neg #[x.val] V fun v V' => ∃ r : NumV, v = r.val ∧ QAt V' r (-z) := by
 obtain ⟨e1, e2, e3⟩ := z.neg_eqs
 refine ref1_Neg_vc x V _ ((ref1_IntNeg_spec hx.re).mono fun v V1 l1 ⟨r1, hv, h1⟩ => ⟨r1, hv, ?_⟩)
 exact (ref1_IntNeg_spec (hx.im.le l1)).mono fun v V2 l2 ⟨r2, hv, h2⟩ => ⟨r2, hv, _, rfl, by rw [e1]; exact h1.le l2, by rw [e2]; exact h2, by rw [e3]; exact hx.under.le (View.le_trans l1 l2)⟩
theorem ref1_Sub_spec {V : View} {x y : NumV} {z w : Cq} (hx : QAt V x z) (hy : QAt V y w) (hz : z.sz ≤ 2 ^ 40) (hw : w.sz ≤ 2 ^ 40) :
 CallV Tryz.prog n_ref1_Sub #[x.val, y.val] V fun v V' => ∃ r : NumV, v = r.val ∧ QAt V' r (z - w) := by
 refine ref1_Sub_vc x y V _ ((ref1_Neg_spec hy).mono fun v V1 l1 ⟨r1, hv, h1⟩ => ⟨r1, hv, ?_⟩)
 rw [Cq.sub_eq]
 exact (ref1_Add_spec (hx.le l1) h1 hz (by rw [Cq.sz_neg]; exact hw)).mono fun v V2 _ ⟨r, hv, hr⟩ => ⟨r, hv, r, rfl, hr⟩
theorem ref1_Mul_spec {V : View} {x y : NumV} {z w : Cq} (hx : QAt V x z) (hy : QAt V y w) (hz : z.sz ≤ 2 ^ 40) (hw : w.sz ≤ 2 ^ 40) :
 CallV Tryz.prog n_ref1_Mul #[x.val, y.val] V fun v V' => ∃ r : NumV, v = r.val ∧ QAt V' r (z * w) := by
 have zA := Cq.wA hz; have zB := Cq.wB hz; have zD := Cq.wD hz
 have wA := Cq.wA hw; have wB := Cq.wB hw; have wD := Cq.wD hw
 have s1 := wn_muli zA wA; have s2 := wn_muli zB wB; have s2' := wn_negi s2; have s3 := wn_muli zA wB; have s4 := wn_muli zB wA
 have s5 := wn_addi s1 s2'; have s6 := wn_addi s3 s4
 rw [← Int.sub_eq_add_neg] at s5
 have s7 := wn_mul_le z.D w.D
 refine ref1_Mul_vc x y V _ ((ref1_IntMul_spec hx.re hy.re (by omega) (by omega)).mono fun v V1 l1 ⟨r1, hv, h1⟩ => ⟨r1, hv, ?_⟩)
 replace hx := hx.le l1; replace hy := hy.le l1
 refine (ref1_IntMul_spec hx.im hy.im (by omega) (by omega)).mono fun v V2 l2 ⟨r2, hv, h2⟩ => ⟨r2, hv, ?_⟩
 replace hx := hx.le l2; replace hy := hy.le l2; replace h1 := h1.le l2
 refine (ref1_IntSub_spec h1 h2 (by omega) (by omega)).mono fun v V4 l4 ⟨r4, hv, h4⟩ => ⟨r4, hv, ?_⟩
 replace hx := hx.le l4; replace hy := hy.le l4
 refine (ref1_IntMul_spec hx.re hy.im (by omega) (by omega)).mono fun v V5 l5 ⟨r5, hv, h5⟩ => ⟨r5, hv, ?_⟩
 replace hx := hx.le l5; replace hy := hy.le l5; replace h4 := h4.le l5
 refine (ref1_IntMul_spec hx.im hy.re (by omega) (by omega)).mono fun v V6 l6 ⟨r6, hv, h6⟩ => ⟨r6, hv, ?_⟩
 replace hx := hx.le l6; replace hy := hy.le l6; replace h4 := h4.le l6; replace h5 := h5.le l6
 refine (ref1_IntAdd_spec h5 h6 (by omega) (by omega)).mono fun v V7 l7 ⟨r7, hv, h7⟩ => ⟨r7, hv, ?_⟩
 replace hx := hx.le l7; replace hy := hy.le l7; replace h4 := h4.le l7
 refine (ref1_NatMul_spec hx.under hy.under (by omega) (by omega)).mono fun v V10 l10 ⟨r10, hv, h10⟩ => ⟨r10, hv, ?_⟩
 exact (ref1_Make_spec (h4.le l10) (h7.le l10) h10 (z.canon.rep.mul w.canon.rep) (by omega) (by omega) (by omega)).mono fun v V11 _ ⟨r, hv, hr⟩ => ⟨r, hv, r, rfl, hr⟩

structure BqAt (V : View) (b : BdV) (e : Eb) : Prop where
 inf : b.inf = e.inf
 num : QAt V b.x e.num
 ok : e.ok
theorem BqAt.le {V V' : View} {b : BdV} {e : Eb} (hle : V.le V') (h : BqAt V b e) : BqAt V' b e := ⟨h.inf, h.num.le hle, h.ok⟩
theorem num_mulQ (a b : Rat) : (⟨a, 0⟩ : Cq) * ⟨b, 0⟩ = ⟨a * b, 0⟩ := Cq.ext' (by rw [Cq.mul_re]; grind) (by rw [Cq.mul_im]; grind)
theorem num_addQ (a b : Rat) : (⟨a, 0⟩ : Cq) + ⟨b, 0⟩ = ⟨a + b, 0⟩ := Cq.ext' (by rw [Cq.add_re]) (by rw [Cq.add_im]; grind)
theorem num_subQ (a b : Rat) : (⟨a, 0⟩ : Cq) - ⟨b, 0⟩ = ⟨a - b, 0⟩ := Cq.ext' (by rw [Cq.sub_re]) (by rw [Cq.sub_im]; grind)
theorem BqAt.zero {V : View} {r : NumV} (h : QAt V r ⟨((0 : Int) : Rat), 0⟩) {i : Int} (hi : (⟨i, 0⟩ : Eb).ok) : BqAt V (BdV.mk i r) ⟨i, 0⟩ := ⟨rfl, by rw [Rat.intCast_zero] at h; exact h, hi⟩

theorem ref1_finite_spec {V : View} {x : Nat} (h : x < 2 ^ 64) : CallV Tryz.prog n_ref1_finite #[.float .f64 x] V fun v _ => v = .bool (decide (x % 2 ^ 63 < infR)) := by
 refine ref1_finite_vc x V _ ⟨x, ext_bits x, ?_⟩
 have hp52 : (2 : Int) ^ (min (Int.toNat 52) IntKind.u64.bits) = ((2 ^ 52 : Nat) : Int) := by decide
 have e := u64_and2 (x := x / 2 ^ 52) (m := 2047) (by omega) (by omega)
 have e1 : x / 2 ^ 52 &&& 2047 = fld x := Nat.and_two_pow_sub_one_eq_mod (x / 2 ^ 52) 11
 rw [e1] at e
 rw [hp52, fdiv_pow]
 rw [show (((2047 : Nat)) : Int) = 2047 from rfl] at e
 rw [e]
 congr 1
 have hf : fld x = 2047 ↔ ¬ x % 2 ^ 63 < infR := by unfold fld infR; omega
 by_cases c : fld x = 2047
 · have := hf.1 c
   rw [c, decide_eq_false this]; rfl
 · have h2 : x % 2 ^ 63 < infR := Classical.byContradiction fun g => c (hf.2 g)
   rw [decide_eq_true h2]
   have : ((fld x : Nat) : Int) ≠ 2047 := by omega
   simp [this]

theorem sgI_shift (x m k : Nat) : (if decide (sgI x m < 0) = true then -((m * 2 ^ k : Nat) : Int) else ((m * 2 ^ k : Nat) : Int)) = sgI x (m * 2 ^ k) := by
 by_cases z : m = 0
 · subst z; rw [Nat.zero_mul]; unfold sgI; split <;> split <;> rfl
 · have hp : 0 < 2 ^ k := Nat.pow_pos (by omega)
   have : 0 < m * 2 ^ k := Nat.mul_pos (by omega) hp
   unfold sgI
   by_cases c : 2 ^ 63 ≤ x
   · rw [if_pos c, if_pos c, if_pos (by rw [decide_eq_true_iff]; omega)]
   · rw [if_neg c, if_neg c, if_neg (by rw [decide_eq_true_iff]; omega)]
theorem ref1_dyadic_spec {V : View} {x : Nat} (h : finW x) : CallV Tryz.prog n_ref1_dyadic #[.float .f64 x] V fun v V' => ∃ r : NumV, v = r.val ∧ QAt V' r ⟨fq x, 0⟩ := by
 have h64 := h.1
 have hfl : fld x < 2048 := by unfold fld; omega
 have hu := up1_pos x
 have hml := mant_lt x
 have hp52 : (2 : Int) ^ (min (Int.toNat 52) IntKind.u64.bits) = ((2 ^ 52 : Nat) : Int) := by decide
 have hp63 : (2 : Int) ^ (min (Int.toNat 63) IntKind.u64.bits) = ((2 ^ 63 : Nat) : Int) := by decide
 have e1 : IntKind.i64.wrap (IntKind.u64.wrap (BitVec.toNat ((BitVec.ofInt IntKind.u64.bits (Int.fdiv (x : Int) (2 ^ (min (Int.toNat 52) (IntKind.u64.bits))))) &&& (BitVec.ofInt IntKind.u64.bits 2047)))) = (fld x : Int) := by
  have := u64_and2 (x := x / 2 ^ 52) (m := 2047) (by omega) (by omega)
  have e : x / 2 ^ 52 &&& 2047 = fld x := Nat.and_two_pow_sub_one_eq_mod (x / 2 ^ 52) 11
  rw [e] at this
  rw [hp52, fdiv_pow]
  rw [show (((2047 : Nat)) : Int) = 2047 from rfl] at this
  rw [this, i64w (by omega) (by omega)]
 have e2 : IntKind.u64.wrap (BitVec.toNat ((BitVec.ofInt IntKind.u64.bits (x : Int)) &&& (BitVec.ofInt IntKind.u64.bits 4503599627370495))) = ((x % 2 ^ 52 : Nat) : Int) := by
  have := u64_and2 (x := x) (m := 4503599627370495) (by omega) (by omega)
  have e : x &&& 4503599627370495 = x % 2 ^ 52 := Nat.and_two_pow_sub_one_eq_mod x 52
  rw [e] at this
  exact this
 have e3 : ((Int.fdiv (x : Int) (2 ^ (min (Int.toNat 63) (IntKind.u64.bits))) : Int) == 1) = decide (2 ^ 63 ≤ x) := by
  rw [hp63, fdiv_pow]
  by_cases c : 2 ^ 63 ≤ x
  · have : x / 2 ^ 63 = 1 := by omega
    rw [this, decide_eq_true c]; rfl
  · have : x / 2 ^ 63 = 0 := by omega
    rw [this, decide_eq_false c]; rfl
 refine ref1_dyadic_vc x V _ ⟨x, ext_bits x, ?_⟩
 rw [e1, e2, e3]
 have hw : ∀ {V1 : View} {s : Sl} {n : Nat}, NatAt V1 s n → n = mant x → CallV Tryz.prog n_ref1_signed #[.bool (decide (2 ^ 63 ≤ x)), s.v] V1 fun v V' => ∃ r : WhV, v = r.val ∧ IntAt V' r (sgI x (mant x)) := by
  intro V1 s n hs hn
  refine (ref1_signed_spec (decide (2 ^ 63 ≤ x)) hs).mono fun v V2 _ ⟨r, hv, hr⟩ => ⟨r, hv, ?_⟩
  subst hn
  unfold sgI
  by_cases c : 2 ^ 63 ≤ x
  · rw [decide_eq_true c] at hr; rw [if_pos c]; simpa using hr
  · rw [decide_eq_false c] at hr; rw [if_neg c]; simpa using hr
 -- below the place of the ones
 have low : ∀ {V : View} {r2 : WhV} {k : Nat}, IntAt V r2 (sgI x (mant x)) → (k : Int) = 1075 - (up1 x : Int) → ∀ (b2 : Nat) (V6 : View), View.le V V6 → View.Fin V6 → V6 b2 = some #[.int .u32 1] →
  CallV Tryz.prog n_ref1_NatShl #[(Sl.mk (some (Addr.mk b2 0 none)) 1 1).v, .int .i64 (k : Int)] V6 fun v V7 => ∃ r5 : Sl, v = r5.v ∧ CallV Tryz.prog n_ref1_Make #[r2.val, (WhV.mk false (Sl.mk none 0 0)).val, r5.v] V7 fun v V8 => ∃ r6 : NumV, v = r6.val ∧ ∃ r : NumV, r6.val = r.val ∧ QAt V8 r ⟨fq x, 0⟩ := by
  intro V r2 k hr hk b2 V6 l6 _ hb2
  refine (ref1_NatShl_spec (n := k) (NatAt.lit (n := 1) hb2 (by omega) (by omega)) (Nat.le_trans wn_one (by decide)) (by omega)).mono fun v V7 l7 ⟨r5, hv, h5⟩ => ⟨r5, hv, ?_⟩
  rw [Nat.one_mul] at h5
  have R : Rep ⟨fq x, 0⟩ (sgI x (mant x)) 0 (2 ^ k) := by
   refine ⟨two_ne k, ?_, zero_over _⟩
   have := fq_over (x := x) (k := k) (n := 0) h64 (by omega)
   rw [Nat.pow_zero, Nat.mul_one] at this
   exact this
  have b2k := bl_two_pow k
  refine (ref1_Make_spec (hr.le (View.le_trans l6 l7)) (IntAt.zero V7) h5 R ?_ (by rw [Int.natAbs_zero, wn_zero]; omega) (wn_bl (by omega))).mono fun v V8 _ ⟨r6, hv, h6⟩ => ⟨r6, hv, r6, rfl, h6⟩
  rw [sgI_abs]; exact wn64 (by omega)
 refine ⟨fun hc => ?_, fun hc => ?_⟩
 · have hc : ((fld x : Nat) : Int) = 0 := by simpa using hc
   have hf0 : fld x = 0 := by omega
   have em : x % 2 ^ 52 = mant x := by unfold mant; rw [if_pos hf0]
   have eu : up1 x = 1 := by unfold up1; rw [if_pos hf0]
   rw [em]
   refine (ref1_NatOf_spec (n := ((mant x : Nat) : Int)) (by omega) (by omega)).mono fun v V1 _ ⟨s, hv, hs⟩ => ⟨s, hv, ?_⟩
   refine (hw hs (by omega)).mono fun v V2 _ ⟨r, hv, hr⟩ => ⟨r, hv, fun g => absurd g (by decide), fun _ => ?_⟩
   have w : IntKind.i64.wrap (1075 - 1) = ((1074 : Nat) : Int) := by decide
   rw [w]
   exact low (k := 1074) hr (by omega)
 · have hf0 : fld x ≠ 0 := fun e => by rw [e] at hc; simp at hc
   have eu : up1 x = fld x := by unfold up1; rw [if_neg hf0]
   have e4 : IntKind.u64.wrap (BitVec.toNat ((BitVec.ofInt IntKind.u64.bits ((x % 2 ^ 52 : Nat) : Int)) ||| (BitVec.ofInt IntKind.u64.bits 4503599627370496))) = ((mant x : Nat) : Int) := by
    have := u64_or (x := x % 2 ^ 52) (m := 4503599627370496) (by omega) (by omega)
    have hor := Nat.two_pow_add_eq_or_of_lt (i := 52) (b := x % 2 ^ 52) (by omega) 1
    have e : x % 2 ^ 52 ||| 4503599627370496 = mant x := by
     rw [Nat.or_comm]
     have h1 : 2 ^ 52 * 1 = 4503599627370496 := by decide
     rw [h1] at hor
     rw [← hor]; unfold mant; rw [if_neg (by omega)]; omega
    rw [e] at this
    exact this
   rw [e4]
   refine (ref1_NatOf_spec (n := ((mant x : Nat) : Int)) (by omega) (by omega)).mono fun v V1 _ ⟨s, hv, hs⟩ => ⟨s, hv, ?_⟩
   refine (hw hs (by omega)).mono fun v V2 _ ⟨r, hv, hr⟩ => ⟨r, hv, fun hg => ?_, fun hg => ?_⟩
   · have hg : ((fld x : Nat) : Int) ≥ 1075 := by simpa using hg
     obtain ⟨k, hk⟩ : ∃ k : Nat, fld x = 1075 + k := ⟨fld x - 1075, by omega⟩
     have w : IntKind.i64.wrap (((fld x : Nat) : Int) - 1075) = (k : Int) := by rw [i64w (by omega) (by omega)]; omega
     rw [w]
     have hr2 := hr.2
     rw [sgI_abs] at hr2
     refine (ref1_NatShl_spec (n := k) hr2 (Nat.le_trans (wn64 (by omega)) (by decide)) (by omega)).mono fun v V3 l3 ⟨r3, hv, h3⟩ => ⟨r3, hv, ?_⟩
     refine (ref1_signed_spec r.neg h3).mono fun v V4 l4 ⟨r4, hv, h4⟩ => ⟨r4, hv, fun b V5 l5 _ hb => ⟨_, rfl, ?_⟩⟩
     rw [hr.1, sgI_shift] at h4
     have e5 : fq x = ((sgI x (mant x * 2 ^ k) : Int) : Rat) := by
      have := fq_over (x := x) (k := 0) (n := k) h64 (by omega)
      rw [this, Nat.pow_zero, Rat.div_def]
      have : ((1 : Nat) : Rat)⁻¹ = 1 := by decide +kernel
      rw [this, Rat.mul_one]
     have q := Cq.ofInt_eqs (sgI x (mant x * 2 ^ k))
     rw [← e5] at q
     exact ⟨by rw [q.1]; exact h4.le l5, by rw [q.2.1]; exact IntAt.zero _, by rw [q.2.2]; exact NatAt.lit (n := 1) hb (by omega) (by omega)⟩
   · have hg : ¬ ((fld x : Nat) : Int) ≥ 1075 := by simpa using hg
     obtain ⟨k, hk⟩ : ∃ k : Nat, (k : Int) = 1075 - (fld x : Int) := ⟨1075 - fld x, by omega⟩
     have w : IntKind.i64.wrap (1075 - ((fld x : Nat) : Int)) = (k : Int) := by rw [i64w (by omega) (by omega)]; omega
     rw [w]
     exact low hr (by omega)
theorem ref1_Float_spec {V : View} {x : Nat} (h : finW x) : CallV Tryz.prog n_ref1_Float #[.float .f64 x] V fun v V' => ∃ r : NumV, v = .tuple #[r.val, .int .i64 0] ∧ QAt V' r ⟨fq x, 0⟩ := by
 refine ref1_Float_vc x V _ ((ref1_finite_spec h.1).mono fun v V1 _ hv => ⟨_, hv, fun hc => ?_, fun _ => ?_⟩)
 · rw [decide_eq_true h.2] at hc; exact absurd hc (by decide)
 · exact (ref1_dyadic_spec h).mono fun v V2 _ ⟨r, hv, hr⟩ => ⟨r, hv, r, rfl, hr⟩
def bqC (V : View) (x : List Value) (e : Eb) : Prop := ∃ b : BdV, x = b.val.cells.toList ∧ BqAt V b e
theorem bqC.le {V V' : View} (hle : V.le V') (x : List Value) (e : Eb) (h : bqC V x e) : bqC V' x e := by
 obtain ⟨b, e1, hb⟩ := h; exact ⟨b, e1, hb.le hle⟩
def BqsAt (V : View) (s : Sl) (es : List Eb) : Prop := ListAt 6 bqC V s es
theorem BqsAt.le {V V' : View} (hle : V.le V') {s : Sl} {es : List Eb} (h : BqsAt V s es) : BqsAt V' s es := ListAt.le (bqC.le hle) hle h

theorem endE_sz12 {k : Int} (h : inK k) : (endE k).num.sz ≤ 2 ^ 12 := Nat.le_trans (endE_sz h) (by omega)
theorem bound_abs_spec {V : View} {a : BdV} {e : Eb} (ha : BdAt V a e) (hz : e.num.sz ≤ 2 ^ 40) : CallV Tryz.prog n_bound_abs #[a.val] V fun v V' => ∃ b : BdV, v = b.val ∧ BdAt V' b e.abs := by
 refine bound_abs_vc a V _ ((bound_sign_spec ha hz).mono fun v V1 l1 hv => ⟨_, hv, fun h => ?_, fun h => ?_⟩)
 · have h : e.sign < 0 := by simpa using h
   exact (bound_neg_spec (ha.le l1)).mono fun v V2 _ ⟨b, hv, hb⟩ => ⟨b, hv, b, rfl, by unfold Eb.abs; rw [if_pos h]; exact hb⟩
 · have h : ¬ e.sign < 0 := by simpa using h
   exact ⟨a, rfl, by unfold Eb.abs; rw [if_neg h]; exact ha.le l1⟩
theorem abs_sz (e : Eb) : e.abs.num.sz = e.num.sz := by
 unfold Eb.abs; split
 · exact sz_neg_num e
 · rfl
theorem box_whole0_spec {V : View} : CallV Tryz.prog n_box_whole #[.int .i64 0] V fun v V' => ∃ b : BdV, v = b.val ∧ BdAt V' b (Eb.fin 0) := by
 refine box_whole_vc 0 V _ ((num_Int_spec (by omega) (by omega)).mono fun v V1 _ ⟨r, hv, hr⟩ => ⟨r, hv, _, rfl, rfl, ?_, .inl rfl⟩)
 rw [Rat.intCast_zero] at hr; exact hr
theorem size_szle {e : Es} {S : Nat} (he : Es.szle e S) (hS : 1 ≤ S) : Es.szle e.size S := by
 have a := abs_sz e.lo; have b := abs_sz e.hi; have c := he.1; have d := he.2
 have p : ∀ way, (Eb.pick way [e.lo.abs, e.hi.abs]).num.sz ≤ S := fun way => pick_sz (by simp) (by intro x hx; simp at hx; rcases hx with rfl | rfl <;> omega)
 unfold Es.size; split
 · exact ⟨Nat.le_trans zero_sz hS, p 1⟩
 · exact ⟨p (-1), p 1⟩
theorem set_size_spec {V : View} {s : SetV} {e : Es} (h : EsAt V s e) {S : Nat} (he : Es.szle e S) (hS : S ≤ 2 ^ 30) : CallV Tryz.prog n_set_size #[s.val] V fun v V' => ∃ r : SetV, v = r.val ∧ EsAt V' r e.size := by
 have a := abs_sz e.lo; have b := abs_sz e.hi; have c := he.1; have d := he.2
 have p : ∀ x ∈ [e.lo.abs, e.hi.abs], x.num.sz ≤ 2 ^ 40 := by intro x hx; simp at hx; rcases hx with rfl | rfl <;> omega
 refine set_size_vc s V _ ((bound_abs_spec h.lo (by omega)).mono fun v V1 l1 ⟨r1, hv, h1⟩ => ⟨r1, hv, (bound_abs_spec (h.hi.le l1) (by omega)).mono fun v V2 l2 ⟨r2, hv, h2⟩ => ⟨r2, hv, ?_⟩⟩)
 refine (set_zero_spec (h.le (View.le_trans l1 l2)) he hS).mono fun v V3 l3 hv => ⟨_, hv, fun hc => ?_, fun hc => ?_⟩
 · refine box_whole0_spec.mono fun v V4 l4 ⟨r4, hv, h4⟩ => ⟨r4, hv, fun b1 V5 l5 _ hb1 => ?_⟩
   have L := View.le_trans l3 (View.le_trans l4 l5)
   refine (greatest_spec (two_bds (h1.le (View.le_trans l2 L)) (h2.le L) hb1) (by simp) (by simp) p).mono fun v V6 l6 ⟨r5, hv, h5⟩ => ⟨r5, hv, _, rfl, ?_⟩
   unfold Es.size; rw [if_pos hc]; exact ⟨h4.le (View.le_trans l5 l6), h5⟩
 · intro b2 V7 l7 _ hb2
   have L := View.le_trans l3 l7
   refine (least_spec (two_bds (h1.le (View.le_trans l2 L)) (h2.le L) hb2) (by simp) (by simp) p).mono fun v V8 l8 ⟨r6, hv, h6⟩ => ⟨r6, hv, fun b3 V9 l9 _ hb3 => ?_⟩
   have L2 := View.le_trans L (View.le_trans l8 l9)
   refine (greatest_spec (two_bds (h1.le (View.le_trans l2 L2)) (h2.le L2) hb3) (by simp) (by simp) p).mono fun v V10 l10 ⟨r7, hv, h7⟩ => ⟨r7, hv, _, rfl, ?_⟩
   unfold Es.size; rw [if_neg (by rw [hc]; decide)]; exact ⟨h6.le (View.le_trans l9 l10), h7⟩
theorem square_szle {e : Es} {S : Nat} (he : Es.szle e S) (hS : 1 ≤ S) : Es.szle e.square (2 * S + 1) := by
 have z := size_szle he hS
 have a := sz_mul_num e.size.lo e.size.lo; have b := sz_mul_num e.size.hi e.size.hi
 have c := z.1; have d := z.2
 exact ⟨by show (e.size.lo.mul e.size.lo).num.sz ≤ _; omega, by show (e.size.hi.mul e.size.hi).num.sz ≤ _; omega⟩
theorem set_square_spec {V : View} {s : SetV} {e : Es} (h : EsAt V s e) {S : Nat} (he : Es.szle e S) (h1S : 1 ≤ S) (hS : S ≤ 2 ^ 30) : CallV Tryz.prog n_set_square #[s.val] V fun v V' => ∃ r : SetV, v = r.val ∧ EsAt V' r e.square := by
 have z := size_szle he h1S
 have c := z.1; have d := z.2
 refine set_square_vc s V _ ((set_size_spec h he hS).mono fun v V1 l1 ⟨r1, hv, h1⟩ => ⟨r1, hv, ?_⟩)
 refine (bound_mul_spec h1.lo h1.lo (by omega) (by omega)).mono fun v V2 l2 ⟨r2, hv, h2⟩ => ⟨r2, hv, ?_⟩
 exact (bound_mul_spec (h1.hi.le l2) (h1.hi.le l2) (by omega) (by omega)).mono fun v V3 l3 ⟨r3, hv, h3⟩ => ⟨r3, hv, _, rfl, h2.le l3, h3⟩
def Sk.square (s : Sk) : Sk := s.set.square.span
def Bk.norm (b : Bk) : Sk := (b.re.set.square.add b.im.set.square).span
theorem Box_Norm_spec {V : View} {b : Bk} (h : b.ok) : CallV Tryz.prog n_Box_Norm #[b.v.val] V fun v _ => v = (Bk.norm b).v.val := by
 have z1 := square_szle (set_szle h.re) (by omega); have z2 := square_szle (set_szle h.im) (by omega)
 refine Box_Norm_vc b.v V _ ((set_spec h.re).mono fun v V1 l1 ⟨r1, hv, h1⟩ => ⟨r1, hv, ?_⟩)
 refine (set_square_spec h1 (set_szle h.re) (by omega) (by omega)).mono fun v V2 l2 ⟨r2, hv, h2⟩ => ⟨r2, hv, ?_⟩
 refine (set_spec h.im).mono fun v V3 l3 ⟨r3, hv, h3⟩ => ⟨r3, hv, ?_⟩
 refine (set_square_spec h3 (set_szle h.im) (by omega) (by omega)).mono fun v V4 l4 ⟨r4, hv, h4⟩ => ⟨r4, hv, ?_⟩
 refine (set_add_spec (h2.le (View.le_trans l3 l4)) h4 z1 z2 (by omega)).mono fun v V5 l5 ⟨r5, hv, h5⟩ => ⟨r5, hv, ?_⟩
 exact (set_span_spec h5 (add_szle z1 z2) (by omega)).mono fun v V6 _ hv => ⟨_, hv, rfl⟩
theorem BqAt.ok2 {V : View} {b : BdV} {e : Eb} (h : BqAt V b e) : e.ok := h.ok

theorem ref1_Of_spec2 {V : View} {r : RatV} (h : ratI r) : CallV Tryz.prog n_ref1_Of #[r.val] V fun v V' => ∃ x : NumV, v = x.val ∧ QAt V' x (ratQ r) := by
 obtain ⟨⟨a1, a2⟩, ⟨b1, b2⟩, ⟨c1, c2⟩⟩ := h
 refine ref1_Of_vc r V _ ⟨fun hd => ?_, fun hd => ?_⟩
 · have hd : r.den = 0 := by simpa using hd
   refine (ref1_New_spec a1 a2 b1 b2 (by omega) (by omega) (by omega)).mono fun v V1 _ ⟨x, hv, hx⟩ => ⟨x, 0, hv, x, rfl, ?_⟩
   have e : ratQ r = ⟨((r.re : Int) : Rat) / ((1 : Int) : Rat), ((r.im : Int) : Rat) / ((1 : Int) : Rat)⟩ := by
    unfold ratQ; rw [if_pos hd]
    exact Cq.ext' (by simp only []; grind) (by simp only []; grind)
   rw [e]; exact hx
 · have hd : r.den ≠ 0 := by simpa using hd
   refine (ref1_New_spec a1 a2 b1 b2 c1 c2 hd).mono fun v V1 _ ⟨x, hv, hx⟩ => ⟨x, 0, hv, x, rfl, ?_⟩
   have e : ratQ r = ⟨((r.re : Int) : Rat) / ((r.den : Int) : Rat), ((r.im : Int) : Rat) / ((r.den : Int) : Rat)⟩ := by
    unfold ratQ; rw [if_neg hd]
   rw [e]; exact hx

theorem Float_any {V : View} {k : Int} (hk : inK k) : CallV Tryz.prog n_ref1_Float #[.float .f64 (wordK k)] V fun v V' => ∃ (r : NumV) (e : Int), v = .tuple #[r.val, .int .i64 e] ∧ QAt V' r ⟨if k.natAbs < infR then fkq k else 0, 0⟩ ∧ (e = 0 ↔ k.natAbs < infR) := by
 by_cases c : k.natAbs < infR
 · rw [if_pos c]
   have hf : finW (wordK k) := by unfold inK at hk; exact wordK_fin (by omega) (by omega)
   refine (ref1_Float_spec hf).mono fun v V1 _ ⟨r, hv, hr⟩ => ⟨r, 0, hv, ?_, fun _ => c, fun _ => rfl⟩
   have e : fq (wordK k) = fkq k := by rw [fq_key, keyK hk]
   rw [e] at hr; exact hr
 · rw [if_neg c]
   refine ref1_Float_vc (wordK k) V _ ((ref1_finite_spec (okK hk).1).mono fun v V1 _ hv => ⟨_, hv, fun _ => ?_, fun h => ?_⟩)
   · refine (ref1_Whole_spec (n := 0) (by omega) (by omega)).mono fun v V2 _ ⟨r, hv, hr⟩ => ⟨r, hv, r, 1, rfl, hr, fun h => absurd h (by decide), fun h => absurd h c⟩
   · exfalso
     have h : wordK k % 2 ^ 63 < infR := Decidable.of_not_not fun g => by
      rw [decide_eq_false g] at h; exact absurd h (by decide)
     have m := key_rung (w := wordK k) (okK hk).1
     rw [keyK hk] at m; omega
theorem tQ {p : Int} (h0 : 0 ≤ p) (h1 : p ≤ 255) : ratQ (RatV.mk (IntKind.i64.wrap p) 0 255) = ⟨(p : Rat) / 255, 0⟩ := by
 rw [i64w (by omega) (by omega)]
 unfold ratQ
 dsimp only
 rw [if_neg (by decide)]
 refine Cq.ext' rfl ?_
 show ((0 : Int) : Rat) / _ = 0
 rw [Rat.intCast_zero, Rat.div_def, Rat.zero_mul]
theorem t_sz {p : Int} (h0 : 0 ≤ p) (h1 : p ≤ 255) : (⟨(p : Rat) / 255, 0⟩ : Cq).sz ≤ 8 := by
 have R : Rep ⟨(p : Rat) / 255, 0⟩ p 0 255 := ⟨by omega, rfl, zero_over _⟩
 exact R.sz (bl_le_of_lt (by omega)) (by rw [Int.natAbs_zero, bl_zero]; omega) (bl_le_of_lt (by omega))
theorem t_range {p : Int} (h0 : 0 ≤ p) (h1 : p ≤ 255) : 0 ≤ (p : Rat) / 255 ∧ (p : Rat) / 255 ≤ 1 := by
 have p0 : (0 : Rat) ≤ (p : Rat) := by exact_mod_cast h0
 have p1 : (p : Rat) ≤ ((255 : Int) : Rat) := Rat.intCast_le_intCast.2 h1
 have e : ((255 : Int) : Rat) = 255 := rfl
 rw [e] at p1
 constructor <;> grind
theorem within_spec {V : View} {s : Sk} (hs : s.ok) {p : Int} (h0 : 0 ≤ p) (h1 : p ≤ 255) (ps : s.proper) : CallV Tryz.prog n_law2_within #[s.v.val, .int .u8 p] V fun v V' => ∃ (r1 r2 : NumV) (b : Bool) (q : Rat), v = .tuple #[r1.val, r2.val, .bool b] ∧ NumAt V' r1 ⟨q, 0⟩ ∧ (⟨q, 0⟩ : Cq).sz ≤ 2 ^ 14 ∧ (b = true → InE ⟨0, q⟩ s.set) := by
 have z0 : wordK 0 = 0 := by decide
 have f0 : fkq 0 = 0 := fkq_zero
 have ri : ratI (RatV.mk (IntKind.i64.wrap p) 0 255) := by
  rw [i64w (by omega) (by omega)]; exact ⟨⟨by show -9223372036854775808 ≤ p; omega, by show p ≤ _; omega⟩, ⟨by show (-9223372036854775808 : Int) ≤ 0; decide, by show (0 : Int) ≤ _; decide⟩, ⟨by show (-9223372036854775808 : Int) ≤ 255; decide, by show (255 : Int) ≤ _; decide⟩⟩
 have ts := t_sz h0 h1
 have tr := t_range h0 h1
 have bad : ∀ {V : View}, CallV Tryz.prog n_ref1_Whole #[.int .i64 0] V fun v V' => ∃ r5 : NumV, v = r5.val ∧ ∃ (r1 r2 : NumV) (b : Bool) (q : Rat), (.tuple #[(NumV.mk (WhV.mk false (Sl.mk none 0 0)) (WhV.mk false (Sl.mk none 0 0)) (Sl.mk none 0 0)).val, r5.val, .bool false] : Value) = .tuple #[r1.val, r2.val, .bool b] ∧ NumAt V' r1 ⟨q, 0⟩ ∧ (⟨q, 0⟩ : Cq).sz ≤ 2 ^ 14 ∧ (b = true → InE ⟨0, q⟩ s.set) := by
  intro V
  exact (ref1_Whole_spec (n := 0) (by omega) (by omega)).mono fun v V1 _ ⟨r5, hv, _⟩ => ⟨r5, hv, _, r5, false, 0, rfl, NumAt.zero V1, Nat.le_trans Cq.sz_zero (by omega), fun h => absurd h (by decide)⟩
 have lim : ∀ {k : Int}, inK k → (⟨if k.natAbs < infR then fkq k else 0, 0⟩ : Cq).sz ≤ 2100 := by
  intro k hk
  split
  · exact fkq_sz hk
  · exact Nat.le_trans Cq.sz_zero (by omega)
 refine law2_within_vc s.v p V _ ((Float_any hs.lo).mono fun v V1 l1 ⟨r1, e1, hv, q1, i1⟩ => ⟨r1, e1, hv, (Float_any hs.hi).mono fun v V2 l2 ⟨r3, e3, hv, q3, i3⟩ => ⟨r3, e3, hv, fun hc => ?_, fun hc => ⟨fun hd => ?_, fun hd => ?_⟩⟩⟩)
 · exact bad
 · exact bad
 have hc : e1 = 0 := by simpa using hc
 have hd : e3 = 0 := by simpa using hd
 have c1 := i1.1 hc; have c3 := i3.1 hd
 have lo := lim hs.lo; have hi := lim hs.hi
 rw [if_pos c1] at q1 lo; rw [if_pos c3] at q3 hi
 have cl := fun V => Complex_any (V := V) hs.lo zero_in
 have ch := fun V => Complex_any (V := V) hs.hi zero_in
 rw [z0, f0] at cl ch
 have i0 : (0 : Int).natAbs < infR := by decide
 refine (ref1_Of_spec2 ri).mono fun v V5 l5 ⟨r7, hv, h7⟩ => ⟨r7, hv, ?_⟩
 rw [tQ h0 h1] at h7
 refine (cl V5).mono fun v V6 l6 ⟨r8, e8, hv, h8, _⟩ => ⟨r8, e8, hv, (ch V6).mono fun v V7 l7 ⟨r10, e10, hv, h10, _⟩ => ⟨r10, e10, hv, ?_⟩⟩
 replace h8 := h8 ⟨c1, i0⟩
 replace h10 := h10 ⟨c3, i0⟩
 have s1 := Cq.sz_sub (⟨fkq s.hi, 0⟩ : Cq) ⟨fkq s.lo, 0⟩
 have s2 := Cq.sz_mul ((⟨fkq s.hi, 0⟩ : Cq) - ⟨fkq s.lo, 0⟩) ⟨(p : Rat) / 255, 0⟩
 have s3 := Cq.sz_add (⟨fkq s.lo, 0⟩ : Cq) (((⟨fkq s.hi, 0⟩ : Cq) - ⟨fkq s.lo, 0⟩) * ⟨(p : Rat) / 255, 0⟩)
 refine (Num_Sub_spec h10 (h8.le l7) (by omega) (by omega)).mono fun v V8 l8 ⟨r12, hv, h12⟩ => ⟨r12, hv, ?_⟩
 refine (law1_Of_spec ri).mono fun v V9 l9 ⟨r13, hv, h13⟩ => ⟨r13, hv, ?_⟩
 rw [tQ h0 h1] at h13
 refine (Num_Mul_spec (h12.le l9) h13 (by omega) (by omega)).mono fun v V10 l10 ⟨r14, hv, h14⟩ => ⟨r14, hv, ?_⟩
 have L10 := View.le_trans l7 (View.le_trans l8 (View.le_trans l9 l10))
 refine (Num_Add_spec (h8.le L10) h14 (by omega) (by omega)).mono fun v V11 l11 ⟨r15, hv, h15⟩ => ⟨r15, hv, ?_⟩
 have M := View.le_trans l5 (View.le_trans l6 (View.le_trans L10 l11))
 refine (ref1_Sub_spec (q3.le M) (q1.le (View.le_trans l2 M)) (by omega) (by omega)).mono fun v V12 l12 ⟨r16, hv, h16⟩ => ⟨r16, hv, ?_⟩
 refine (ref1_Mul_spec h16 (h7.le (View.le_trans l6 (View.le_trans L10 (View.le_trans l11 l12)))) (by omega) (by omega)).mono fun v V13 l13 ⟨r17, hv, h17⟩ => ⟨r17, hv, ?_⟩
 refine (ref1_Add_spec (q1.le (View.le_trans l2 (View.le_trans M (View.le_trans l12 l13)))) h17 (by omega) (by omega)).mono fun v V14 l14 ⟨r18, hv, _⟩ => ⟨r18, hv, ?_⟩
 refine ⟨r15, r18, true, fkq s.lo + (fkq s.hi - fkq s.lo) * ((p : Rat) / 255), rfl, ?_, ?_, fun _ => ?_⟩
 · have := h15.le (View.le_trans l12 (View.le_trans l13 l14))
   rw [num_subQ, num_mulQ, num_addQ] at this; exact this
 · rw [num_subQ, num_mulQ, num_addQ] at s3
   rw [num_subQ, num_mulQ] at s2
   rw [num_subQ] at s1
   omega
 · have le : fkq s.lo ≤ fkq s.hi := fkq_le ps.1
   have a := Rat.mul_nonneg (show 0 ≤ fkq s.hi - fkq s.lo by grind) tr.1
   have b := Rat.mul_le_mul_of_nonneg_left tr.2 (show 0 ≤ fkq s.hi - fkq s.lo by grind)
   constructor
   · show Eb.Le (endE s.lo) _; rw [endE_of c1]; exact fin_le.2 (by grind)
   · show Eb.Le _ (endE s.hi); rw [endE_of c3]; exact fin_le.2 (by grind)
def Place8 (p : PlaceV) : Prop := (0 ≤ p.re ∧ p.re ≤ 255) ∧ (0 ≤ p.im ∧ p.im ≤ 255)
theorem inside_spec {V : View} {b : Bk} (hb : b.ok) (pb : b.proper) {p : PlaceV} (hp : Place8 p) : CallV Tryz.prog n_law2_inside #[b.v.val, p.val] V fun v V' => ∃ (r : NumV) (c : Bool) (z : Cq), v = .tuple #[r.val, .bool c] ∧ NumAt V' r z ∧ z.sz ≤ 2 ^ 16 ∧ (c = true → b.has z = true) := by
 have ri : ratI (RatV.mk 0 1 0) := ⟨⟨by decide, by decide⟩, ⟨by decide, by decide⟩, ⟨by decide, by decide⟩⟩
 have rq : ratQ (RatV.mk 0 1 0) = ⟨0, 1⟩ := by decide +kernel
 have rs : (⟨0, 1⟩ : Cq).sz ≤ 4 := by decide +kernel
 refine law2_inside_vc b.v p V _ ((within_spec hb.re hp.1.1 hp.1.2 pb.1).mono fun v V1 l1 ⟨r1, r2, c1, x, hv, h1, s1, k1⟩ => ⟨r1, r2, c1, hv, ?_⟩)
 refine (within_spec hb.im hp.2.1 hp.2.2 pb.2).mono fun v V2 l2 ⟨r4, r5, c2, y, hv, h4, s4, k4⟩ => ⟨r4, r5, c2, hv, ?_⟩
 refine (law1_Of_spec ri).mono fun v V3 l3 ⟨r7, hv, h7⟩ => ⟨r7, hv, ?_⟩
 rw [rq] at h7
 have m1 := Cq.sz_mul (⟨y, 0⟩ : Cq) ⟨0, 1⟩
 have m2 := Cq.sz_add (⟨x, 0⟩ : Cq) ((⟨y, 0⟩ : Cq) * ⟨0, 1⟩)
 have e : (⟨x, 0⟩ : Cq) + (⟨y, 0⟩ : Cq) * ⟨0, 1⟩ = ⟨x, y⟩ := Cq.ext' (by rw [Cq.add_re, Cq.mul_re]; grind) (by rw [Cq.add_im, Cq.mul_im]; grind)
 refine (Num_Mul_spec (h4.le l3) h7 (by omega) (by omega)).mono fun v V4 l4 ⟨r8, hv, h8⟩ => ⟨r8, hv, ?_⟩
 refine (Num_Add_spec (h1.le (View.le_trans l2 (View.le_trans l3 l4))) h8 (by omega) (by omega)).mono fun v V5 l5 ⟨r9, hv, h9⟩ => ⟨r9, hv, ?_⟩
 rw [e] at h9 m2
 refine ⟨fun hc => ⟨r9, c2, ⟨x, y⟩, rfl, h9, by omega, fun g => bk_has.2 ⟨k1 hc, k4 g⟩⟩, fun hc => ⟨r9, false, ⟨x, y⟩, rfl, h9, by omega, fun g => absurd g (by decide)⟩⟩
theorem mkS_word {s : Sk} (h : s.ok) (p : s.proper) : mkE (wordK s.lo) (wordK s.hi) = 0 ∧ mkS (wordK s.lo) (wordK s.hi) = s := by
 have e : mkE (wordK s.lo) (wordK s.hi) = 0 := by
  unfold mkE
  rw [keyK h.lo, keyK h.hi, if_neg, if_neg (by have := p.1; omega)]
  rintro (g | g | g | g)
  · exact g (okK h.lo)
  · exact g (okK h.hi)
  · exact p.2.1 g
  · exact p.2.2 g
 refine ⟨e, ?_⟩
 unfold mkS; rw [if_pos e, keyK h.lo, keyK h.hi]
theorem spanOf_spec {V : View} {s : Sk} (h : s.ok) (p : s.proper) : CallV Tryz.prog n_law2_spanOf #[s.v.val] V fun v _ => v = s.v.val := by
 refine law2_spanOf_vc s.v V _ ((MakeSpan_spec (okK h.lo).1 (okK h.hi).1).mono fun v V1 _ hv => ⟨_, _, hv, ?_⟩)
 rw [(mkS_word h p).2]
theorem meet_has {s t : Sk} (hs : s.ok) (ht : t.ok) {q : Rat} (h : InE ⟨0, q⟩ s.set) (k : InE ⟨0, q⟩ t.set) : InE ⟨0, q⟩ (s.meet t).set ∧ (s.meet t).nonempty = true := by
 have lo : Eb.Le (endE (max s.lo t.lo)) ⟨0, q⟩ := by
  rcases (by omega : max s.lo t.lo = s.lo ∨ max s.lo t.lo = t.lo) with e | e
  · rw [e]; exact h.1
  · rw [e]; exact k.1
 have hi : Eb.Le ⟨0, q⟩ (endE (min s.hi t.hi)) := by
  rcases (by omega : min s.hi t.hi = s.hi ∨ min s.hi t.hi = t.hi) with e | e
  · rw [e]; exact h.2
  · rw [e]; exact k.2
 refine ⟨⟨lo, hi⟩, ?_⟩
 have := endE_le (Sk.meet_ok hs ht).lo (Sk.meet_ok hs ht).hi (lo.trans hi)
 unfold Sk.nonempty; rw [decide_eq_true_iff]; exact this
theorem hull_has {s t : Sk} (hs : s.ok) (ht : t.ok) {q : Rat} (h : InE ⟨0, q⟩ s.set) : InE ⟨0, q⟩ (s.hull t).set :=
 ⟨(endE_mono (Sk.hull_ok hs ht).lo hs.lo (by show min s.lo t.lo ≤ s.lo; omega)).trans h.1, h.2.trans (endE_mono hs.hi (Sk.hull_ok hs ht).hi (by show s.hi ≤ max s.hi t.hi; omega))⟩
theorem part_spec {V : View} {b : Bk} (hb : b.ok) (pb : b.proper) {p q : PlaceV} (hp : Place8 p) (hq : Place8 q) : CallV Tryz.prog n_law2_part #[b.v.val, p.val, q.val] V fun v _ => ∃ (t : Bk) (c : Bool), v = .tuple #[t.v.val, .bool c] ∧ (c = true → ∃ z, Grow t b z) := by
 have nil : (BoxV.mk (SpV.mk 0 0) (SpV.mk 0 0)).val = Bk.nil.v.val := rfl
 refine law2_part_vc b.v p q V _ ((inside_spec hb pb hp).mono fun v V1 l1 ⟨r1, c1, z, hv, h1, s1, k1⟩ => ⟨r1, c1, hv, ?_⟩)
 refine (inside_spec hb pb hq).mono fun v V2 l2 ⟨r3, c3, w, hv, h3, s3, _⟩ => ⟨r3, c3, hv, fun _ => ?_, fun hc => ⟨fun _ => ?_, fun _ => ?_⟩⟩
 · exact ⟨Bk.nil, false, by rw [← nil], fun g => absurd g (by decide)⟩
 · exact ⟨Bk.nil, false, by rw [← nil], fun g => absurd g (by decide)⟩
 have hz := k1 (by simpa using hc)
 refine (Of_spec _ (h1.le l2) (by omega)).mono fun v V3 l3 hv => ⟨_, hv, (Of_spec _ (h3.le l3) (by omega)).mono fun v V4 l4 hv => ⟨_, hv, ?_⟩⟩
 refine (Box_Hull_spec (ofB_ok z) (ofB_ok w)).mono fun v V5 l5 hv => ⟨_, hv, ?_⟩
 refine (spanOf_spec hb.re pb.1).mono fun v V6 l6 hv => ⟨_, hv, (spanOf_spec hb.im pb.2).mono fun v V7 l7 hv => ⟨_, hv, (Pair_spec _ _).mono fun v V8 l8 hv => ⟨_, hv, ?_⟩⟩⟩
 have hok : ((ofB z).hull (ofB w)).ok := ⟨Sk.hull_ok (ofB_ok z).re (ofB_ok w).re, Sk.hull_ok (ofB_ok z).im (ofB_ok w).im⟩
 refine (Box_Meet_spec hok hb).mono fun v V9 l9 hv => ⟨_, _, hv, _, true, rfl, fun _ => ⟨z, ?_⟩⟩
 obtain ⟨o1, o2⟩ := bk_has.1 (ofB_has z)
 obtain ⟨z1, z2⟩ := bk_has.1 hz
 have m1 := meet_has hok.re hb.re (hull_has (ofB_ok z).re (ofB_ok w).re o1) z1
 have m2 := meet_has hok.im hb.im (hull_has (ofB_ok z).im (ofB_ok w).im o2) z2
 have mm : ((ofB z).hull (ofB w)).meets b = true := by unfold Bk.meets; rw [Bool.and_eq_true]; exact ⟨m1.2, m2.2⟩
 have ok : (((ofB z).hull (ofB w)).meet b).ok := by
  unfold Bk.meet; rw [if_pos mm]; exact ⟨Sk.meet_ok hok.re hb.re, Sk.meet_ok hok.im hb.im⟩
 refine Grow.of ok hb ?_ ?_
 · unfold Bk.meet; rw [if_pos mm]
   unfold Bk.isIn; rw [Bool.and_eq_true]
   refine ⟨isIn_of ?_ ?_, isIn_of ?_ ?_⟩
   · show b.re.lo ≤ max _ b.re.lo; omega
   · show min _ b.re.hi ≤ b.re.hi; omega
   · show b.im.lo ≤ max _ b.im.lo; omega
   · show min _ b.im.hi ≤ b.im.hi; omega
 · unfold Bk.meet; rw [if_pos mm]; exact bk_has.2 ⟨m1.1, m2.1⟩
end Go.Proofs.YtkibfmnkkiakoaaGreat
namespace Go.Proofs.YtkibfmnkkiakoaaGreat
open Go Go.Vc Go.Proofs Go.ChangeShapes Go.RowKit
theorem U8.of {n : Int} (h : (Lit.int .u8 n).wf = true) : 0 ≤ n ∧ n ≤ 255 := by
 have h := bounds_u8 h
 exact ⟨h.1, by have := h.2; omega⟩
section
variable {H : Type} {enc : TypeId × Value → H} {P : Program} {w : World} {base : Nat} {spare : Nat → Bool} {held : Bool} {t : TypeId} {v : Value} {dd : DataW H} {ps : List MemPlace}
theorem open_places4 (hk : flatK P 8 t = some [.int .u8, .int .u8, .int .u8, .int .u8, .int .u8, .int .u8, .int .u8, .int .u8]) (h : DataW.Trod enc P w base spare held t v dd ps) :
 ∃ x : Arr4, v = x.val ∧ Place8 x.e0 ∧ Place8 x.e1 ∧ Place8 x.e2 ∧ Place8 x.e3 := by
 have h := open_flat hk h
 match hc : v.cells.toList, h with
 | [_, _, _, _, _, _, _, _], ⟨⟨n, e1, a1⟩, ⟨m, e2, a2⟩, ⟨k, e3, a3⟩, ⟨j, e4, a4⟩, ⟨n', e5, a5⟩, ⟨m', e6, a6⟩, ⟨k', e7, a7⟩, ⟨j', e8, a8⟩, _⟩ =>
   subst e1; subst e2; subst e3; subst e4; subst e5; subst e6; subst e7; subst e8
   exact ⟨⟨⟨n, m⟩, ⟨k, j⟩, ⟨n', m'⟩, ⟨k', j'⟩⟩, agg_of_cells hc (by simp), ⟨U8.of a1, U8.of a2⟩, ⟨U8.of a3, U8.of a4⟩, ⟨U8.of a5, U8.of a6⟩, ⟨U8.of a7, U8.of a8⟩⟩
end
end Go.Proofs.YtkibfmnkkiakoaaGreat
namespace Go.Proofs.YtkibfmnkkiakoaaGreat
open Go Go.Vc Go.Proofs
theorem has_off {V : View} {b k : Nat} {l : List Value} (h : V b = some l.toArray) : V.has (Option.map (fun q => Addr.add q k) (some (Addr.mk b 0 none))) (l.drop k) := by
 intro j v hj
 have e : (Option.map (fun q => Addr.add q k) (some (Addr.mk b 0 none))).map (·.add j) = (some (Addr.mk b 0 none)).map (·.add (k + j)) := by
  show some (((Addr.mk b 0 none).add k).add j) = some ((Addr.mk b 0 none).add (k + j))
  rw [addr_add_add]
 rw [e, load_block h]
 rw [List.getElem?_drop] at hj
 simpa using hj
theorem root_1_spec {V : View} {k : Int} {p1 p2 : Option Addr} {x n : NumV} {X N : Rat} (hk : inK k) (hf : finW (wordK k)) (h1 : V.has (Option.map (fun q => Addr.add q 1) p1) x.val.cells.toList) (s1 : p1.isSome = true) (h2 : V.has p2 n.val.cells.toList) (s2 : p2.isSome = true)
 (hx : NumAt V x ⟨X, 0⟩) (hn : NumAt V n ⟨N, 0⟩) (zx : (⟨X, 0⟩ : Cq).sz ≤ 2 ^ 20) (zn : (⟨N, 0⟩ : Cq).sz ≤ 2 ^ 30) :
 CallV Tryz.prog n_box_root_1 #[.float .f64 (wordK k), .pointer p1, .pointer p2] V fun v _ => v = .int .i64 (rtC X N (fkq k)) := by
 have zq := fkq_sz hk
 obtain ⟨q, hq⟩ : ∃ q, q = fkq k := ⟨_, rfl⟩
 rw [← hq] at zq ⊢
 have z1 := Cq.sz_mul ⟨q, 0⟩ ⟨q, 0⟩
 have two : (⟨((2 : Int) : Rat), 0⟩ : Cq).sz ≤ 2 := (Rep.ofInt 2).sz (by decide) (by decide) (by decide)
 refine box_root_1_vc (wordK k) p1 p2 V _ ((exact_spec1 hf).mono fun v V1 l1 ⟨r1, hv, hr1⟩ => ⟨r1, hv, s1, x, View.has_le l1 h1, by rw [Option.isSome_map]; exact s1, ?_⟩)
 rw [keyK hk, ← hq] at hr1
 refine (Num_Mul_spec hr1 hr1 (by omega) (by omega)).mono fun v V2 l2 ⟨r2, hv, hr2⟩ => ⟨r2, hv, (num_Int_spec (by omega) (by omega)).mono fun v V3 l3 ⟨r3, hv, hr3⟩ => ⟨r3, hv, ?_⟩⟩
 have z2 := Cq.sz_mul ((⟨q, 0⟩ : Cq) * ⟨q, 0⟩) ⟨((2 : Int) : Rat), 0⟩
 refine (Num_Mul_spec (hr2.le l3) hr3 (by omega) (by omega)).mono fun v V4 l4 ⟨r4, hv, hr4⟩ => ⟨r4, hv, ?_⟩
 have L4 := View.le_trans l1 (View.le_trans l2 (View.le_trans l3 l4))
 have z3 := Cq.sz_sub ((⟨q, 0⟩ : Cq) * ⟨q, 0⟩ * ⟨((2 : Int) : Rat), 0⟩) ⟨X, 0⟩
 refine (Num_Sub_spec hr4 (hx.le L4) (by omega) (by omega)).mono fun v V5 l5 ⟨r5, hv, hr5⟩ => ⟨r5, hv, ?_⟩
 have e5 : (⟨q, 0⟩ : Cq) * ⟨q, 0⟩ * ⟨((2 : Int) : Rat), 0⟩ - ⟨X, 0⟩ = ⟨rtD X q, 0⟩ := by
  rw [num_mulQ, num_mulQ, num_subQ]; rfl
 rw [e5] at hr5 z3
 refine (Num_Cmp_spec hr5 (NumAt.zero V5) (by omega) (Nat.le_trans Cq.sz_zero (by omega))).mono fun v V6 l6 hv => ⟨_, hv, ?_⟩
 have e6 : (⟨rtD X q, 0⟩ : Cq).cmp Cq.zero = cmpR (rtD X q) 0 := cmp_num _ _
 rw [e6]
 have cl : cmpR (rtD X q) 0 < 0 ↔ rtD X q < 0 := by
  unfold cmpR
  by_cases c : rtD X q < 0
  · rw [if_pos c]; exact ⟨fun _ => c, fun _ => by decide⟩
  · rw [if_neg c]; constructor
    · intro h; split at h <;> exact absurd h (by decide)
    · intro h; exact absurd h c
 refine ⟨fun hc => ?_, fun hc => ?_⟩
 · have hc : rtD X q < 0 := by rw [decide_eq_true_iff] at hc; exact cl.1 hc
   unfold rtC; rw [if_pos hc]
 · have hc : ¬ rtD X q < 0 := by rw [decide_eq_false_iff_not] at hc; exact fun g => hc (cl.2 g)
   have L6 := View.le_trans L4 (View.le_trans l5 l6)
   refine ⟨n, View.has_le L6 h2, s2, ?_⟩
   have z4 := Cq.sz_mul (⟨rtD X q, 0⟩ : Cq) ⟨rtD X q, 0⟩
   refine (Num_Mul_spec (hr5.le l6) (hr5.le l6) (by omega) (by omega)).mono fun v V7 l7 ⟨r7, hv, hr7⟩ => ⟨r7, hv, ?_⟩
   refine (Num_Cmp_spec hr7 (hn.le (View.le_trans L6 l7)) (by omega) (by omega)).mono fun v V8 _ hv => ⟨_, hv, ?_⟩
   rw [num_mulQ]
   have e8 : (⟨rtD X q * rtD X q, 0⟩ : Cq).cmp ⟨N, 0⟩ = cmpR (rtD X q * rtD X q) N := cmp_num _ _
   rw [e8]
   unfold rtC; rw [if_neg hc]
theorem root_2_spec {V : View} {k : Int} {p : Option Addr} {f : Fn2} {X N : Rat} (hp : V.load p = some (f.val n_box_root_1))
 (h : CallV Tryz.prog n_box_root_1 #[.float .f64 (wordK k), .pointer f.p0, .pointer f.p1] V fun v _ => v = .int .i64 (rtC X N (fkq k))) :
 CallV Tryz.prog n_box_root_2 #[.float .f64 (wordK k), .pointer p] V fun v _ => v = .bool (decide (rtC X N (fkq k) ≤ 0)) :=
 box_root_2_vc (wordK k) p V _ ⟨f, hp, h.mono fun v V1 _ hv => ⟨_, hv, rfl⟩⟩
theorem search_spec {V : View} {f : Fn1} (U : Nat → Bool) (h0 : U 0 = true) (hU : ∀ V' (r : Nat), V.le V' → r < infR → CallV Tryz.prog n_box_root_2 #[.float .f64 r, .pointer f.p0] V' fun v _ => v = .bool (U r)) :
 CallV Tryz.prog n_box_search #[f.val n_box_root_2] V fun v _ => ∃ r : Nat, v = .float .f64 r ∧ r < infR ∧ U r = true ∧ (r + 1 = infR ∨ U (r + 1) = false) := by
 have hi : infR = 9218868437227405312 := rfl
 refine box_search_vc f V _ (fun _ x _ => ∃ lo hi : Nat, x.t3 = lo ∧ x.t4 = hi ∧ lo ≤ hi ∧ hi < infR ∧ U lo = true ∧ (hi + 1 = infR ∨ U (hi + 1) = false)) (fun _ x _ => (x.t4 - x.t3).toNat) ?_
 refine ⟨_, ext_bits 9218868437227405311, ⟨0, 9218868437227405311, rfl, rfl, by omega, by omega, h0, .inl (by omega)⟩, ?_⟩
 rintro ⟨t3, t4⟩ V1 l1 ⟨lo, hi', rfl, rfl, hle, hlt, hU1, hU2⟩
 dsimp only
 refine ⟨fun hc => ?_, fun hc => ?_⟩
 · have hc : lo < hi' := by have : (lo : Int) < (hi' : Int) := by simpa using hc
                            omega
   obtain ⟨m, hm⟩ : ∃ m : Nat, m = lo + (hi' - lo + 1) / 2 := ⟨_, rfl⟩
   have w : IntKind.u64.wrap ((lo : Int) + (IntKind.u64.wrap (Int.tdiv (IntKind.u64.wrap ((IntKind.u64.wrap ((hi' : Int) - (lo : Int))) + 1)) 2))) = (m : Int) := by
    have e1 : (hi' : Int) - (lo : Int) = ((hi' - lo : Nat) : Int) := by omega
    rw [e1, u64_wrap (y := hi' - lo) (by omega)]
    have e2 : ((hi' - lo : Nat) : Int) + 1 = ((hi' - lo + 1 : Nat) : Int) := by omega
    rw [e2, u64_wrap (y := hi' - lo + 1) (by omega)]
    have e3 : Int.tdiv ((hi' - lo + 1 : Nat) : Int) 2 = (((hi' - lo + 1) / 2 : Nat) : Int) := (Int.ofNat_tdiv (hi' - lo + 1) 2).symm
    rw [e3, u64_wrap (y := (hi' - lo + 1) / 2) (by omega)]
    have e4 : (lo : Int) + (((hi' - lo + 1) / 2 : Nat) : Int) = (m : Int) := by omega
    rw [e4, u64_wrap (y := m) (by omega)]
   rw [w]
   refine ⟨m, ext_from m, (hU V1 m l1 (by omega)).mono fun v V2 l2 hv => ⟨_, hv, fun hb => ?_, fun hb => ?_⟩⟩
   · exact ⟨⟨m, hi', rfl, rfl, by omega, hlt, hb, hU2⟩, by show ((hi' : Int) - (m : Int)).toNat < ((hi' : Int) - (lo : Int)).toNat; omega⟩
   · have w2 : IntKind.u64.wrap ((m : Int) - 1) = ((m - 1 : Nat) : Int) := by
       have : (m : Int) - 1 = ((m - 1 : Nat) : Int) := by omega
       rw [this, u64_wrap (by omega)]
     rw [w2]
     refine ⟨⟨lo, m - 1, rfl, rfl, by omega, by omega, hU1, .inr ?_⟩, by show (((m - 1 : Nat) : Int) - (lo : Int)).toNat < ((hi' : Int) - (lo : Int)).toNat; omega⟩
     have : m - 1 + 1 = m := by omega
     rw [this]; exact hb
 · have hc : lo = hi' := by have : ¬ (lo : Int) < (hi' : Int) := by simpa using hc
                            omega
   subst hc
   exact ⟨lo, ext_from lo, lo, rfl, hlt, hU1, hU2⟩
theorem Copysign_spec {V : View} : CallV Tryz.prog n_math_Copysign #[.float .f64 1, .float .f64 infR] V fun v _ => v = .float .f64 1 := by
 refine math_Copysign_vc 1 infR V _ ?_
 refine ⟨_, ext_bits 1, _, ext_bits infR, 1, ?_, rfl⟩
 have e := ext_from 1
 refine (?_ : ExtVal Tryz.prog n_math_Float64frombits #[.int .u64 ((1 : Nat) : Int)] (.float .f64 1) = _) ▸ e
 congr 3
theorem Nextafter_spec {V : View} {r : Nat} (hr : r < infR) : CallV Tryz.prog n_math_Nextafter #[.float .f64 r, .float .f64 infR] V fun v _ => v = .float .f64 (r + 1 : Nat) := by
 have hi : infR = 9218868437227405312 := rfl
 have ok1 : okW r := ⟨by omega, by rw [Nat.mod_eq_of_lt (by omega)]; omega⟩
 have ok2 : okW infR := ⟨by omega, by rw [Nat.mod_eq_of_lt (by omega)]; exact Nat.le_refl _⟩
 have ok0 : okW 0 := ⟨by decide, by decide⟩
 have k1 : key r = r := small_key (by omega)
 have k2 : key infR = infR := small_key (by omega)
 have k0 : key 0 = 0 := by decide
 refine math_Nextafter_vc r infR V _ ((IsNaN_spec ok1.1).mono fun v V1 _ hv => ⟨_, hv, fun h => ?_, fun _ => (IsNaN_spec ok2.1).mono fun v V3 _ hv => ⟨_, hv, fun h => ?_, fun _ => ⟨fun h => ?_, fun _ => ⟨fun h => ?_, fun h => ⟨fun _ => ?_, fun h2 => ?_⟩⟩⟩⟩⟩)
 · have h : ¬ okW r := by simpa using h
   exact absurd ok1 h
 · have h : ¬ okW infR := by simpa using h
   exact absurd ok2 h
 · rw [ord_eq ok1 ok2, k1, k2] at h
   have h : (r : Int) = infR := by simpa using h
   omega
 · rw [ord_eq ok1 ok0, k1, k0] at h
   have h : (r : Int) = 0 := by simpa using h
   have r0 : r = 0 := by omega
   subst r0
   exact ⟨1, ext_from 1, Copysign_spec.mono fun v V5 _ hv => ⟨_, hv, rfl⟩⟩
 · refine ⟨_, ext_bits r, r + 1, ?_, rfl⟩
   have w : IntKind.u64.wrap ((r : Int) + 1) = ((r + 1 : Nat) : Int) := by
    have : (r : Int) + 1 = ((r + 1 : Nat) : Int) := by omega
    rw [this, u64_wrap (by omega)]
   rw [w]; exact ext_from (r + 1)
 · exfalso
   rw [ord_eq ok1 ok0, k1, k0] at h
   have h : ¬ (r : Int) = 0 := by simpa using h
   rw [ord_gt ok2 ok1, ord_gt ok1 ok0, k1, k2, k0] at h2
   have a1 : decide ((r : Int) < (infR : Int)) = true := by rw [decide_eq_true_iff]; omega
   have a2 : decide ((0 : Int) < (r : Int)) = true := by rw [decide_eq_true_iff]; omega
   rw [a1, a2] at h2; exact absurd h2 (by decide)
theorem box_root_spec {V : View} {a b : BdV} {e f : Eb} (up : Bool) (ha : BdAt V a e) (hb : BdAt V b f) (he : e.num.sz ≤ 2 ^ 12) (hf : f.num.sz ≤ 2 ^ 12) :
 CallV Tryz.prog n_box_root #[a.val, b.val, .bool up] V fun v _ => ∃ k : Nat, v = .float .f64 k ∧ RootIs e f up k := by
 have ia := ha.inf; have ib := hb.inf
 refine box_root_vc a b up V _ ⟨fun h => ?_, fun h => ⟨fun h2 => ?_, fun h2 => ⟨fun h3 => ?_, fun h3 => ?_⟩⟩⟩
 · have h : 0 < e.inf := by rw [← ia]; simpa using h
   exact Inf_up.mono fun v V1 _ hv => ⟨_, hv, infR, rfl, by unfold RootIs; rw [if_pos (.inl h)]⟩
 · have h2 : f.inf ≠ 0 := by rw [← ib]; simpa using h2
   exact Inf_up.mono fun v V1 _ hv => ⟨_, hv, infR, rfl, by unfold RootIs; rw [if_pos (.inr h2)]⟩
 · have h : ¬ 0 < e.inf := by rw [← ia]; rw [decide_eq_false_iff_not] at h; exact h
   have h2 : ¬ f.inf ≠ 0 := by rw [← ib]; simpa using h2
   have h3 : e.inf < 0 := by rw [← ia]; simpa using h3
   exact ⟨0, rfl, by unfold RootIs; rw [if_neg (by rintro (g | g); exact h g; exact h2 g), if_pos h3]⟩
 · have h : ¬ 0 < e.inf := by rw [← ia]; rw [decide_eq_false_iff_not] at h; exact h
   have h2 : ¬ f.inf ≠ 0 := by rw [← ib]; simpa using h2
   have h3 : ¬ e.inf < 0 := by rw [← ia]; rw [decide_eq_false_iff_not] at h3; exact h3
   have goal : ∀ k, (∃ r, IsTop (rtP e.x (e.x * e.x + f.x * f.x)) r ∧ k = if up = true ∧ rtC e.x (e.x * e.x + f.x * f.x) (fkq (r : Int)) ≠ 0 then r + 1 else r) → RootIs e f up k := by
    intro k hk
    unfold RootIs; rw [if_neg (by rintro (g | g); exact h g; exact h2 g), if_neg h3]; exact hk
   obtain ⟨X, hX⟩ : ∃ X, X = e.x := ⟨_, rfl⟩
   obtain ⟨N, hN⟩ : ∃ N, N = e.x * e.x + f.x * f.x := ⟨_, rfl⟩
   have hXN : X * X ≤ N := by rw [hX, hN]; exact sq_sum _ _
   rw [← hN, ← hX] at goal
   have s1 := Cq.sz_mul e.num e.num; have s2 := Cq.sz_mul f.num f.num; have s3 := Cq.sz_add (e.num * e.num) (f.num * f.num)
   refine (Num_Mul_spec ha.num ha.num (by omega) (by omega)).mono fun v V3 l3 ⟨r3, hv, hr3⟩ => ⟨r3, hv, (Num_Mul_spec (hb.num.le l3) (hb.num.le l3) (by omega) (by omega)).mono fun v V4 l4 ⟨r4, hv, hr4⟩ => ⟨r4, hv, ?_⟩⟩
   refine (Num_Add_spec (hr3.le l4) hr4 (by omega) (by omega)).mono fun v V5 l5 ⟨r5, hv, hr5⟩ => ⟨r5, hv, ?_⟩
   have e5 : e.num * e.num + f.num * f.num = ⟨N, 0⟩ := by
    show (⟨e.x, 0⟩ : Cq) * ⟨e.x, 0⟩ + ⟨f.x, 0⟩ * ⟨f.x, 0⟩ = _
    rw [num_mulQ, num_mulQ, num_addQ, hN]
   rw [e5] at hr5 s3
   intro b1 V6 l6 hb1 b2 V7 l7 hb2 b3 V8 l8 hb3
   have zx : (⟨X, 0⟩ : Cq).sz ≤ 2 ^ 20 := by rw [hX]; exact Nat.le_trans he (by omega)
   have zn : (⟨N, 0⟩ : Cq).sz ≤ 2 ^ 30 := by omega
   have cmp : ∀ {V' : View} {k : Nat}, V8.le V' → k < infR → CallV Tryz.prog n_box_root_1 #[.float .f64 k, .pointer (some (Addr.mk b1 0 none)), .pointer (some (Addr.mk b2 0 none))] V' fun v _ => v = .int .i64 (rtC X N (fkq (k : Int))) := by
    intro V' k hle hk
    have L := View.le_trans (View.le_trans l7 l8) hle
    have L2 := View.le_trans l8 hle
    have := root_1_spec (V := V') (k := (k : Int)) (p1 := some (Addr.mk b1 0 none)) (p2 := some (Addr.mk b2 0 none)) (x := a.x) (n := r5) (X := X) (N := N) (inK_nat (by omega)) (by rw [wordK_nat]; exact ⟨by unfold infR at hk; omega, by rw [Nat.mod_eq_of_lt (by unfold infR at hk; omega)]; exact hk⟩)
     (View.has_le L (has_off (k := 1) hb1)) rfl (View.has_le L2 (has_bd hb2)) rfl
     (by rw [hX]; exact ha.num.le (View.le_trans l3 (View.le_trans l4 (View.le_trans l5 (View.le_trans l6 L))))) (hr5.le (View.le_trans l6 L)) zx zn
    rw [wordK_nat] at this
    exact this
   have ld : ∀ {V' : View}, V8.le V' → V'.load (some (Addr.mk b3 0 none)) = some ((Fn2.mk (some (Addr.mk b1 0 none)) (some (Addr.mk b2 0 none))).val n_box_root_1) := by
    intro V' hle
    exact View.load_le hle (by simp only [View.load, hb3]; rfl)
   refine (search_spec (f := Fn1.mk (some (Addr.mk b3 0 none))) (fun r => decide (rtC X N (fkq (r : Int)) ≤ 0)) ?_ ?_).mono fun v V9 l9 ⟨r, hv, hr, hU, hn⟩ => ⟨r, hv, ?_⟩
   · show decide (rtC X N (fkq ((0 : Nat) : Int)) ≤ 0) = true
     rw [show ((0 : Nat) : Int) = 0 from rfl, fkq_zero, decide_eq_true_iff, rtC_le]; exact rtP_zero hXN
   · intro V' r hle hr
     have := root_2_spec (V := V') (k := (r : Int)) (p := some (Addr.mk b3 0 none)) (ld hle) (by rw [wordK_nat]; exact cmp hle hr)
     rw [wordK_nat] at this
     exact this
   have top : IsTop (rtP X N) r := by
    refine ⟨hr, rtC_le.1 (by simpa using hU), hn.imp id fun g => ?_⟩
    have g : ¬ rtC X N (fkq ((r + 1 : Nat) : Int)) ≤ 0 := by simpa using g
    exact fun p => g (rtC_le.2 p)
   refine ⟨fun hu => ⟨_, ld l9, (cmp l9 hr).mono fun v V10 l10 hv => ⟨_, hv, fun hc => ?_, fun hc => ?_⟩⟩, fun hu => ?_⟩
   · have hc : rtC X N (fkq (r : Int)) ≠ 0 := by simpa using hc
     refine Inf_up.mono fun v V11 _ hv => ⟨_, hv, (Nextafter_spec hr).mono fun v V12 _ hv => ⟨_, hv, r + 1, rfl, goal _ ⟨r, top, ?_⟩⟩⟩
     rw [if_pos ⟨hu, hc⟩]
   · have hc : rtC X N (fkq (r : Int)) = 0 := by simpa using hc
     exact ⟨r, rfl, goal _ ⟨r, top, by rw [if_neg (fun g => g.2 hc)]⟩⟩
   · exact ⟨r, rfl, goal _ ⟨r, top, by rw [if_neg (fun g => by rw [hu] at g; exact absurd g.1 (by decide))]⟩⟩

theorem lt0K {k : Int} (h : inK k) : (FloatKind.f64.format.order (wordK k) 0 == some .lt) = decide (k < 0) := ltK h zero_in
theorem Span_Sqrt_spec {V : View} {s : Sk} (h : s.ok) : CallV Tryz.prog n_Span_Sqrt #[s.v.val] V fun v _ => ∃ t : Sk, v = .tuple #[t.v.val, .int .i64 (if s.lo < 0 then 1 else 0)] ∧ SqrtS s t := by
 have l0 := lt0K h.lo
 refine Span_Sqrt_vc s.v V _ ⟨fun hc => ?_, fun hc => ?_⟩
 · have hc : s.lo < 0 := by have := l0 ▸ hc; simpa using this
   exact ⟨Sk.nil, by rw [if_pos hc]; rfl, by unfold SqrtS; rw [if_pos hc]⟩
 · have hc : ¬ s.lo < 0 := by have := l0 ▸ hc; simpa using this
   refine (set_spec h).mono fun v V1 l1 ⟨r, hv, hr⟩ => ⟨r, hv, ?_⟩
   refine (box_root_spec false hr.lo (BdAt.zero V1) (Nat.le_trans (endE_sz h.lo) (by omega)) (Nat.le_trans zero_sz (by omega))).mono fun v V2 l2 ⟨k, hv, hk⟩ => ⟨k, hv, ?_⟩
   refine (box_root_spec true (hr.hi.le l2) (BdAt.zero V2) (Nat.le_trans (endE_sz h.hi) (by omega)) (Nat.le_trans zero_sz (by omega))).mono fun v V3 l3 ⟨l, hv, hl⟩ => ⟨l, hv, ⟨(k : Int), (l : Int)⟩, ?_, ?_⟩
   · rw [if_neg hc]; unfold Sk.v; rw [wordK_nat, wordK_nat]
   · unfold SqrtS; rw [if_neg hc]; exact ⟨k, l, rfl, hk, hl⟩
theorem Box_Sqrt_spec {V : View} {b : Bk} (h : b.ok) : CallV Tryz.prog n_Box_Sqrt #[b.v.val] V fun v _ => ∃ t : Bk, v = .tuple #[t.v.val, .bool true] ∧ SqrtB b t := by
 have l0 := lt0K h.im.lo
 have h0 := lt0K h.im.hi
 have z1 : (endE b.re.lo).num.sz ≤ 2 ^ 12 := endE_sz12 h.re.lo
 have z2 : (endE b.re.hi).num.sz ≤ 2 ^ 12 := endE_sz12 h.re.hi
 have z3 : (endE b.im.lo).num.sz ≤ 2 ^ 12 := endE_sz12 h.im.lo
 have z4 : (endE b.im.hi).num.sz ≤ 2 ^ 12 := endE_sz12 h.im.hi
 have sz := size_szle (set_szle h.im) (by omega)
 have sz1 : b.im.set.size.lo.num.sz ≤ 2 ^ 12 := Nat.le_trans sz.1 (by omega)
 have sz2 : b.im.set.size.hi.num.sz ≤ 2 ^ 12 := Nat.le_trans sz.2 (by omega)
 have plus : ∀ {V : View} {k : Nat}, k ≤ infR → CallV Tryz.prog n_box_plain #[.float .f64 k] V fun v _ => v = .float .f64 (wordK (k : Int)) := by
  intro V k hk
  have := plain_spec (V := V) (okK (inK_nat hk))
  rw [keyK (inK_nat hk), wordK_nat] at this
  rw [wordK_nat]; exact this
 have minus : ∀ {V : View} {k : Nat}, k ≤ infR → CallV Tryz.prog n_box_plain #[.float .f64 (Op.negFloat .f64 k)] V fun v _ => v = .float .f64 (wordK (-(k : Int))) := by
  intro V k hk
  have a := negFloat_key (okK (inK_nat hk))
  have := plain_spec (V := V) a.1
  rw [a.2, keyK (inK_nat hk), wordK_nat] at this
  exact this
 refine Box_Sqrt_vc b.v V _ ((set_spec h.re).mono fun v V1 l1 ⟨x, hv, hx⟩ => ⟨x, hv, (set_spec h.im).mono fun v V2 l2 ⟨y, hv, hy⟩ => ⟨y, hv, ?_⟩⟩)
 replace hx := hx.le l2
 refine (set_size_spec hy (set_szle h.im) (by omega)).mono fun v V3 l3 ⟨s, hv, hs⟩ => ⟨s, hv, ?_⟩
 refine (box_root_spec false (hx.lo.le l3) hs.lo z1 sz1).mono fun v V4 l4 ⟨k1, hv, hk1⟩ => ⟨k1, hv, ?_⟩
 refine (box_root_spec true (hx.hi.le (View.le_trans l3 l4)) (hs.hi.le l4) z2 sz2).mono fun v V5 l5 ⟨k2, hv, hk2⟩ => ⟨k2, hv, ?_⟩
 have L5 := View.le_trans l3 (View.le_trans l4 l5)
 have nz : ∀ {e : Eb}, e.num.sz ≤ 2 ^ 12 → e.neg.num.sz ≤ 2 ^ 12 := fun g => by rw [sz_neg_num]; exact g
 have ret : ∀ {k3 k4 : Nat} {w3 w4 : Nat} (c : Int) (d : Int), w3 = wordK c → w4 = wordK d →
  (∃ k : Nat, (b.im.lo < 0 → c = -(k : Int) ∧ RootIs b.re.set.lo.neg b.im.set.lo.neg true k) ∧ (¬ b.im.lo < 0 → c = k ∧ RootIs b.re.set.hi.neg b.im.set.lo false k)) →
  (∃ k : Nat, (b.im.hi < 0 → d = -(k : Int) ∧ RootIs b.re.set.hi.neg b.im.set.hi.neg false k) ∧ (¬ b.im.hi < 0 → d = k ∧ RootIs b.re.set.lo.neg b.im.set.hi true k)) →
  ∃ t : Bk, Value.tuple #[(BoxV.mk (SpV.mk k1 k2) (SpV.mk w3 w4)).val, .bool true] = .tuple #[t.v.val, .bool true] ∧ SqrtB b t := by
  intro _ _ w3 w4 c d e3 e4 g3 g4
  refine ⟨⟨⟨(k1 : Int), (k2 : Int)⟩, ⟨c, d⟩⟩, ?_, ⟨⟨k1, rfl, hk1⟩, ⟨k2, rfl, hk2⟩, g3, g4⟩⟩
  unfold Bk.v Sk.v; rw [wordK_nat, wordK_nat, e3, e4]
 refine ⟨fun hc => ?_, fun hc => ?_⟩
 · have hc : b.im.lo < 0 := by have := l0 ▸ hc; simpa using this
   refine (bound_neg_spec (hx.lo.le L5)).mono fun v V6 l6 ⟨r6, hv, h6⟩ => ⟨r6, hv, (bound_neg_spec (hy.lo.le (View.le_trans L5 l6))).mono fun v V7 l7 ⟨r7, hv, h7⟩ => ⟨r7, hv, ?_⟩⟩
   refine (box_root_spec true (h6.le l7) h7 (nz z1) (nz z3)).mono fun v V8 l8 ⟨k3, hv, hk3⟩ => ⟨k3, hv, ?_⟩
   have L8 := View.le_trans L5 (View.le_trans l6 (View.le_trans l7 l8))
   have g3 : ∃ k : Nat, (b.im.lo < 0 → (-(k3 : Int)) = -(k : Int) ∧ RootIs b.re.set.lo.neg b.im.set.lo.neg true k) ∧ (¬ b.im.lo < 0 → (-(k3 : Int)) = k ∧ RootIs b.re.set.hi.neg b.im.set.lo false k) := ⟨k3, fun _ => ⟨rfl, hk3⟩, fun g => absurd hc g⟩
   refine ⟨fun hd => ?_, fun hd => ?_⟩
   · have hd : b.im.hi < 0 := by have := h0 ▸ hd; simpa using this
     refine (bound_neg_spec (hx.hi.le L8)).mono fun v V9 l9 ⟨r9, hv, h9⟩ => ⟨r9, hv, (bound_neg_spec (hy.hi.le (View.le_trans L8 l9))).mono fun v V10 l10 ⟨r10, hv, h10⟩ => ⟨r10, hv, ?_⟩⟩
     refine (box_root_spec false (h9.le l10) h10 (nz z2) (nz z4)).mono fun v V11 _ ⟨k4, hv, hk4⟩ => ⟨k4, hv, (minus hk3.le).mono fun v V12 _ hv => ⟨_, hv, (minus hk4.le).mono fun v V13 _ hv => ⟨_, hv, ?_⟩⟩⟩
     exact ret (k3 := k3) (k4 := k4) _ _ rfl rfl g3 ⟨k4, fun _ => ⟨rfl, hk4⟩, fun g => absurd hd g⟩
   · have hd : ¬ b.im.hi < 0 := by have := h0 ▸ hd; simpa using this
     refine (bound_neg_spec (hx.lo.le L8)).mono fun v V9 l9 ⟨r9, hv, h9⟩ => ⟨r9, hv, ?_⟩
     refine (box_root_spec true h9 (hy.hi.le (View.le_trans L8 l9)) (nz z1) z4).mono fun v V11 _ ⟨k4, hv, hk4⟩ => ⟨k4, hv, (minus hk3.le).mono fun v V12 _ hv => ⟨_, hv, (plus hk4.le).mono fun v V13 _ hv => ⟨_, hv, ?_⟩⟩⟩
     exact ret (k3 := k3) (k4 := k4) _ _ rfl rfl g3 ⟨k4, fun g => absurd g hd, fun _ => ⟨rfl, hk4⟩⟩
 · have hc : ¬ b.im.lo < 0 := by have := l0 ▸ hc; simpa using this
   refine (bound_neg_spec (hx.hi.le L5)).mono fun v V6 l6 ⟨r6, hv, h6⟩ => ⟨r6, hv, ?_⟩
   refine (box_root_spec false h6 (hy.lo.le (View.le_trans L5 l6)) (nz z2) z3).mono fun v V8 l8 ⟨k3, hv, hk3⟩ => ⟨k3, hv, ?_⟩
   have L8 := View.le_trans L5 (View.le_trans l6 l8)
   have g3 : ∃ k : Nat, (b.im.lo < 0 → (k3 : Int) = -(k : Int) ∧ RootIs b.re.set.lo.neg b.im.set.lo.neg true k) ∧ (¬ b.im.lo < 0 → (k3 : Int) = k ∧ RootIs b.re.set.hi.neg b.im.set.lo false k) := ⟨k3, fun g => absurd g hc, fun _ => ⟨rfl, hk3⟩⟩
   refine ⟨fun hd => ?_, fun hd => ?_⟩
   · have hd : b.im.hi < 0 := by have := h0 ▸ hd; simpa using this
     refine (bound_neg_spec (hx.hi.le L8)).mono fun v V9 l9 ⟨r9, hv, h9⟩ => ⟨r9, hv, (bound_neg_spec (hy.hi.le (View.le_trans L8 l9))).mono fun v V10 l10 ⟨r10, hv, h10⟩ => ⟨r10, hv, ?_⟩⟩
     refine (box_root_spec false (h9.le l10) h10 (nz z2) (nz z4)).mono fun v V11 _ ⟨k4, hv, hk4⟩ => ⟨k4, hv, (plus hk3.le).mono fun v V12 _ hv => ⟨_, hv, (minus hk4.le).mono fun v V13 _ hv => ⟨_, hv, ?_⟩⟩⟩
     exact ret (k3 := k3) (k4 := k4) _ _ rfl rfl g3 ⟨k4, fun _ => ⟨rfl, hk4⟩, fun g => absurd hd g⟩
   · have hd : ¬ b.im.hi < 0 := by have := h0 ▸ hd; simpa using this
     refine (bound_neg_spec (hx.lo.le L8)).mono fun v V9 l9 ⟨r9, hv, h9⟩ => ⟨r9, hv, ?_⟩
     refine (box_root_spec true h9 (hy.hi.le (View.le_trans L8 l9)) (nz z1) z4).mono fun v V11 _ ⟨k4, hv, hk4⟩ => ⟨k4, hv, (plus hk3.le).mono fun v V12 _ hv => ⟨_, hv, (plus hk4.le).mono fun v V13 _ hv => ⟨_, hv, ?_⟩⟩⟩
     exact ret (k3 := k3) (k4 := k4) _ _ rfl rfl g3 ⟨k4, fun g => absurd g hd, fun _ => ⟨rfl, hk4⟩⟩

def GrowQ (V : View) (n cap : Nat) (o : List Value) (es : List Eb) : Prop := ∃ l, LstOk 6 n cap o l ∧ Cells 6 bqC V l es ∧ n = es.length
theorem GrowQ.le {V V' : View} (hle : V.le V') {n cap : Nat} {o : List Value} {es : List Eb} (h : GrowQ V n cap o es) : GrowQ V' n cap o es := by
 obtain ⟨l, h1, h2, h3⟩ := h; exact ⟨l, h1, h2.imp (bqC.le hle), h3⟩
theorem GrowQ.push {V1 : View} {n cap : Nat} {o : List Value} {es : List Eb} {r : BdV} {e : Eb} {b : Nat} {R : Nat → Nat → List Value → Prop} (h : GrowQ V1 n cap o es) (hr : BqAt V1 r e) (hl : es.length ≤ 2 ^ 20)
 (hb : V1 b = some #[.int .i64 r.inf, .bool r.x.re.neg, r.x.re.mag.v, .bool r.x.im.neg, r.x.im.mag.v, r.x.under.v]) (hR : ∀ c l3, GrowQ V1 (n + 1) c l3 (es ++ [e]) → R (n + 1) c l3) :
 ∃ (l1 l2 : List Value), LstOk 6 n cap o l1 ∧ View.has V1 (some (Addr.mk b 0 none)) l2 ∧ List.length l2 = 1 * 6 ∧ (∀ v ∈ l2, Value.oneCell' v = true) ∧ n + 1 ≤ maxLen ∧ (n + 1) * 96 ≤ 140737488355328 ∧
  ∀ (c1 : Nat) (l3 : List Value), LstOk 6 (n + 1) c1 l3 (l1 ++ l2) → R (n + 1) c1 l3 := by
 obtain ⟨l, h1, h2, h3⟩ := h
 refine ⟨l, _, h1, has_bd (l := [.int .i64 r.inf, .bool r.x.re.neg, r.x.re.mag.v, .bool r.x.im.neg, r.x.im.mag.v, r.x.under.v]) hb, rfl, oneCell_bd r, Nat.le_trans (show n + 1 ≤ 2 ^ 20 + 1 by omega) (by decide), by omega, fun c1 l3 hl3 => hR _ _ ⟨_, hl3, ?_, by simp; omega⟩⟩
 exact Cells.append h2 (Cells.one rfl ⟨r, rfl, hr⟩)
def Bk.div (b c : Bk) : Bk := if c.invE = 0 then b.mul c.inv else Bk.nil
theorem Box_Div_spec {V : View} {b c : Bk} (h : b.ok) (k : c.ok) : CallV Tryz.prog n_Box_Div #[b.v.val, c.v.val] V fun v _ => v = .tuple #[(Bk.div b c).v.val, .int .i64 c.invE] := by
 refine Box_Div_vc b.v c.v V _ ((Box_Inv_spec k).mono fun v V1 _ hv => ⟨_, _, hv, fun hc => ?_, fun hc => ?_⟩)
 · have hc : c.invE ≠ 0 := by simpa using hc
   unfold Bk.div; rw [if_neg hc]; rfl
 · have hc : c.invE = 0 := by simpa using hc
   refine (Box_Mul_spec h (Bk.inv_ok c)).mono fun v V2 _ hv => ⟨_, hv, ?_⟩
   unfold Bk.div; rw [if_pos hc, hc]

abbrev GrowC (r2 r5 r8 r10 : BoxV) (V57 : View) (R : Value → View → Prop) : Prop :=
 CallV Tryz.prog n_Box_Sqrt #[r2.val] V57 fun v V81 => ∃ (r105 : BoxV) (r106 : Bool), v = .tuple #[r105.val, .bool r106] ∧
 CallV Tryz.prog n_Box_Sqrt #[r8.val] V81 fun v V82 => ∃ (r107 : BoxV) (r108 : Bool), v = .tuple #[r107.val, .bool r108] ∧
 CallV Tryz.prog n_Box_Norm #[r8.val] V82 fun v V83 => ∃ r109 : SpV, v = r109.val ∧
 CallV Tryz.prog n_Span_Sqrt #[r109.val] V83 fun v V84 => ∃ (r110 : SpV) (r111 : Int), v = .tuple #[r110.val, .int .i64 r111] ∧
 CallV Tryz.prog n_Box_Norm #[r2.val] V84 fun v V85 => ∃ r112 : SpV, v = r112.val ∧
 CallV Tryz.prog n_Span_Sqrt #[r112.val] V85 fun v V86 => ∃ (r113 : SpV) (r114 : Int), v = .tuple #[r113.val, .int .i64 r114] ∧
 CallV Tryz.prog n_Box_In #[r8.val, r2.val] V86 fun v V87 => ∃ r115 : Bool, v = .bool r115 ∧
 (r115 = true →
 CallV Tryz.prog n_Box_In #[r10.val, r5.val] V87 fun v V88 => ∃ r116 : Bool, v = .bool r116 ∧
 (r116 = true →
 CallV Tryz.prog n_Box_Add #[r8.val, r10.val] V88 fun v V89 => ∃ r117 : BoxV, v = r117.val ∧
 CallV Tryz.prog n_Box_Add #[r2.val, r5.val] V89 fun v V90 => ∃ r118 : BoxV, v = r118.val ∧
 CallV Tryz.prog n_Box_In #[r117.val, r118.val] V90 fun v V91 => ∃ r119 : Bool, v = .bool r119 ∧
 (r119 = true →
 CallV Tryz.prog n_Box_Sub #[r8.val, r10.val] V91 fun v V92 => ∃ r120 : BoxV, v = r120.val ∧
 CallV Tryz.prog n_Box_Sub #[r2.val, r5.val] V92 fun v V93 => ∃ r121 : BoxV, v = r121.val ∧
 CallV Tryz.prog n_Box_In #[r120.val, r121.val] V93 fun v V94 => ∃ r122 : Bool, v = .bool r122 ∧
 (r122 = true →
 CallV Tryz.prog n_Box_Mul #[r8.val, r10.val] V94 fun v V95 => ∃ r123 : BoxV, v = r123.val ∧
 CallV Tryz.prog n_Box_Mul #[r2.val, r5.val] V95 fun v V96 => ∃ r124 : BoxV, v = r124.val ∧
 CallV Tryz.prog n_Box_In #[r123.val, r124.val] V96 fun v V97 => ∃ r125 : Bool, v = .bool r125 ∧
 (r125 = true →
 CallV Tryz.prog n_Box_Norm #[r8.val] V97 fun v V98 => ∃ r126 : SpV, v = r126.val ∧
 CallV Tryz.prog n_Box_Norm #[r2.val] V98 fun v V99 => ∃ r127 : SpV, v = r127.val ∧
 CallV Tryz.prog n_Span_In #[r126.val, r127.val] V99 fun v V100 => ∃ r128 : Bool, v = .bool r128 ∧
 (r128 = true →
 CallV Tryz.prog n_Box_In #[r107.val, r105.val] V100 fun v V101 => ∃ r129 : Bool, v = .bool r129 ∧
 (r129 = true →
 CallV Tryz.prog n_Span_In #[r110.val, r113.val] V101 fun v V102 => ∃ r130 : Bool, v = .bool r130 ∧
 R (.bool r130) V102) ∧
 (r129 = false → R (.bool false) V101)) ∧
 (r128 = false → R (.bool false) V100)) ∧
 (r125 = false → R (.bool false) V97)) ∧
 (r122 = false → R (.bool false) V94)) ∧
 (r119 = false → R (.bool false) V91)) ∧
 (r116 = false → R (.bool false) V88)) ∧
 (r115 = false → R (.bool false) V87)
theorem in_true {V : View} {b' b : Bk} (h' : b'.ok) (h : b.ok) (hi : b'.isIn b = true) {A B : View → Prop} (hA : ∀ V', A V') : CallV Tryz.prog n_Box_In #[b'.v.val, b.v.val] V fun v V' => ∃ r : Bool, v = .bool r ∧ (r = true → A V') ∧ (r = false → B V') :=
 (Box_In_spec h' h).mono fun v V' _ hv => ⟨_, hv, fun _ => hA V', fun g => by rw [hi] at g; exact absurd g (by decide)⟩
theorem span_in_true {V : View} {s' s : Sk} (h' : s'.ok) (h : s.ok) (hi : s'.isIn s = true) {A B : View → Prop} (hA : ∀ V', A V') : CallV Tryz.prog n_Span_In #[s'.v.val, s.v.val] V fun v V' => ∃ r : Bool, v = .bool r ∧ (r = true → A V') ∧ (r = false → B V') :=
 (Span_In_spec h' h).mono fun v V' _ hv => ⟨_, hv, fun _ => hA V', fun g => by rw [hi] at g; exact absurd g (by decide)⟩
theorem grow_tail {V : View} {b' b c' c : Bk} {z w : Cq} (h : Grow b' b z) (k : Grow c' c w) : GrowC b.v c.v b'.v c'.v V fun v _ => v = .bool true := by
 have nb : (Bk.norm b').isIn (Bk.norm b) = true := span_sub (norm_okE b') (fair_of rfl (norm_in h.has)) h.norm
 have n0 : 0 ≤ (Bk.norm b).lo := norm_lo h.has2
 have ob : (Bk.norm b).ok := Es.span_ok _
 have ob' : (Bk.norm b').ok := Es.span_ok _
 have hs : (b'.sub c').ok := Bk.sub_eq b' c' ▸ Bk.add_ok _ _
 have hs' : (b.sub c).ok := Bk.sub_eq b c ▸ Bk.add_ok _ _
 refine (Box_Sqrt_spec h.ok).mono fun v V81 _ ⟨t, hv, ht⟩ => ⟨_, _, hv, (Box_Sqrt_spec h.ok').mono fun v V82 _ ⟨t', hv, ht'⟩ => ⟨_, _, hv, ?_⟩⟩
 refine (Box_Norm_spec h.ok').mono fun v V83 _ hv => ⟨_, hv, (Span_Sqrt_spec ob').mono fun v V84 _ ⟨s', hv, hs2'⟩ => ⟨_, _, hv, ?_⟩⟩
 refine (Box_Norm_spec h.ok).mono fun v V85 _ hv => ⟨_, hv, (Span_Sqrt_spec ob).mono fun v V86 _ ⟨s, hv, hs2⟩ => ⟨_, _, hv, ?_⟩⟩
 have rg := SqrtB.grow h ht' ht
 have sg := SqrtS.grow ob' ob (set_sub ob' ob nb) n0 hs2' hs2
 refine in_true h.ok' h.ok h.isIn fun V87 => in_true k.ok' k.ok k.isIn fun V88 => ?_
 refine (Box_Add_spec h.ok' k.ok').mono fun v V89 _ hv => ⟨_, hv, (Box_Add_spec h.ok k.ok).mono fun v V90 _ hv => ⟨_, hv, ?_⟩⟩
 refine in_true (Bk.add_ok _ _) (Bk.add_ok _ _) (h.add k).isIn fun V91 => ?_
 refine (Box_Sub_spec h.ok' k.ok').mono fun v V92 _ hv => ⟨_, hv, (Box_Sub_spec h.ok k.ok).mono fun v V93 _ hv => ⟨_, hv, ?_⟩⟩
 refine in_true hs hs' (h.sub k).isIn fun V94 => ?_
 refine (Box_Mul_spec h.ok' k.ok').mono fun v V95 _ hv => ⟨_, hv, (Box_Mul_spec h.ok k.ok).mono fun v V96 _ hv => ⟨_, hv, ?_⟩⟩
 refine in_true (Bk.mul_ok _ _) (Bk.mul_ok _ _) (h.mul k).isIn fun V97 => ?_
 refine (Box_Norm_spec h.ok').mono fun v V98 _ hv => ⟨_, hv, (Box_Norm_spec h.ok).mono fun v V99 _ hv => ⟨_, hv, ?_⟩⟩
 refine span_in_true ob' ob nb fun V100 => in_true ht'.ok ht.ok rg fun V101 => ?_
 refine (Span_In_spec hs2'.ok hs2.ok).mono fun v V102 _ hv => ⟨_, hv, ?_⟩
 rw [sg]
theorem BoxGrows_spec {V : View} {p q : SidesV} {a : Arr4} (h1 : p.u64) (h2 : q.u64) (a0 : Place8 a.e0) (a1 : Place8 a.e1) (a2 : Place8 a.e2) (a3 : Place8 a.e3) : CallV Tryz.prog n_law2_BoxGrows #[p.val, q.val, a.val] V fun v _ => v = .bool true := by
 refine law2_BoxGrows_vc p q a V _ (awake_spec.mono fun v V1 _ hv => ⟨_, hv, fun h => absurd h (by decide), fun _ => ?_⟩)
 refine (Both_spec h1).mono fun v V2 _ ⟨b, kb, hb, pb, hv⟩ => ⟨_, _, _, hv, ?_⟩
 refine (Both_spec h2).mono fun v V3 _ ⟨c, kc, hc, pc, hv⟩ => ⟨_, _, _, hv, fun _ => rfl, fun g1 => ⟨fun _ => rfl, fun g2 => ⟨by decide, by decide, ?_⟩⟩⟩
 have pb := pb (by simpa using g1)
 have pc := pc (by simpa using g2)
 refine (part_spec hb pb a0 a1).mono fun v V4 _ ⟨b', kb', hv, hB⟩ => ⟨_, _, hv, by decide, by decide, ?_⟩
 refine (part_spec hc pc a2 a3).mono fun v V5 _ ⟨c', kc', hv, hC⟩ => ⟨_, _, hv, fun _ => rfl, fun g3 => ⟨fun _ => rfl, fun g4 => ?_⟩⟩
 obtain ⟨z, h⟩ := hB (by simpa using g3)
 obtain ⟨w, k⟩ := hC (by simpa using g4)
 have clr : ∀ {b : Bk}, b.clear = true → b.invE = 0 := fun h => by unfold Bk.invE; rw [if_pos h]
 have unc : ∀ {b : Bk}, b.invE = 0 → b.clear = true := fun {b} h => by
  unfold Bk.invE at h
  cases e : b.clear
  · rw [e] at h; exact absurd h (by decide)
  · rfl
 have rest : ∀ {V7 : View}, CallV Tryz.prog n_Box_Div #[b.v.val, c.v.val] V7 fun v V56 => ∃ (r74 : BoxV) (r75 : Int), v = .tuple #[r74.val, .int .i64 r75] ∧
  CallV Tryz.prog n_Box_Div #[b'.v.val, c'.v.val] V56 fun v V57 => ∃ (r76 : BoxV) (r77 : Int), v = .tuple #[r76.val, .int .i64 r77] ∧
  ((((r75 : Int) == 0) = true → (((r77 : Int) != 0) = true → (.bool false : Value) = .bool true) ∧ (((r77 : Int) != 0) = false →
    CallV Tryz.prog n_Box_In #[r76.val, r74.val] V57 fun v V58 => ∃ r78 : Bool, v = .bool r78 ∧ ((!r78) = true → (.bool false : Value) = .bool true) ∧ ((!r78) = false → GrowC b.v c.v b'.v c'.v V58 fun v _ => v = .bool true))) ∧
  (((r75 : Int) == 0) = false → GrowC b.v c.v b'.v c'.v V57 fun v _ => v = .bool true)) := by
  intro V7
  refine (Box_Div_spec hb hc).mono fun v V56 _ hv => ⟨_, _, hv, (Box_Div_spec h.ok' k.ok').mono fun v V57 _ hv => ⟨_, _, hv, fun g => ?_, fun _ => grow_tail h k⟩⟩
  have g : c.invE = 0 := by simpa using g
  have cc := unc g
  have cc' := k.clear cc
  have g' := clr cc'
  refine ⟨fun e => by rw [g'] at e; exact absurd e (by decide), fun _ => ?_⟩
  have e1 : Bk.div b c = b.mul c.inv := by unfold Bk.div; rw [if_pos g]
  have e2 : Bk.div b' c' = b'.mul c'.inv := by unfold Bk.div; rw [if_pos g']
  rw [e1, e2]
  have m := (h.mul (k.inv cc)).isIn
  exact (Box_In_spec (Bk.mul_ok _ _) (Bk.mul_ok _ _)).mono fun v V58 _ hv => ⟨_, hv, fun e => by rw [m] at e; exact absurd e (by decide), fun _ => grow_tail h k⟩
 refine (Box_Inv_spec hb).mono fun v V6 _ hv => ⟨_, _, hv, (Box_Inv_spec h.ok').mono fun v V7 _ hv => ⟨_, _, hv, fun g => ?_, fun _ => rest⟩⟩
 have g : b.invE = 0 := by simpa using g
 have cb := unc g
 have cb' := h.clear cb
 have g' := clr cb'
 refine ⟨fun e => by rw [g'] at e; exact absurd e (by decide), fun _ => ?_⟩
 have m := (h.inv cb).isIn
 exact (Box_In_spec (Bk.inv_ok _) (Bk.inv_ok _)).mono fun v V8 _ hv => ⟨_, hv, fun e => by rw [m] at e; exact absurd e (by decide), fun _ => rest⟩
end Go.Proofs.YtkibfmnkkiakoaaGreat
