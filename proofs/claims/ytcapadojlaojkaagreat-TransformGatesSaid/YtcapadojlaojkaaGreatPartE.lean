/- Part of the proof; it has the parts CR3 CR4 CTxt CR5 CShf CLs1 CLs CFac CGts CGt2 CGt3. -/
import Derived.Test.YtcapadojlaojkaaGreatPartD
import Derived.Laws.StructEq
namespace Go.Proofs.YtcapadojlaojkaaGreat
open Go Go.Vc Go.Proofs

set_option maxHeartbeats 4000000 in
theorem ref1_NatDiv_spec {V : View} {s t : Sl} {a b : Nat} (hs : NatAt V s a) (ht : NatAt V t b) (ha : wn a ≤ 2 ^ 43) (hb0 : b ≠ 0) :
    CallV Tryz.prog n_ref1_NatDiv #[s.v, t.v] V fun v V' => ∃ q r : Sl, v = .tuple #[q.v, r.v] ∧ NatAt V' q (a / b) ∧ NatAt V' r (a % b) := by
  have hsl := hs.len
  have htl := ht.len
  obtain ⟨sh, hsh⟩ : ∃ sh, sh = 32 - bl ((dig b).getD (wn b - 1) 0) := ⟨_, rfl⟩
  obtain ⟨hsh1, hwv, hlo⟩ := div_norm hb0 hsh
  obtain ⟨X, hX⟩ : ∃ X, X = a * 2 ^ sh := ⟨_, rfl⟩
  obtain ⟨vN, hvN⟩ : ∃ v, v = b * 2 ^ sh := ⟨_, rfl⟩
  rw [← hvN] at hwv hlo
  obtain ⟨m, hm⟩ : ∃ m, m = s.len + 1 := ⟨_, rfl⟩
  obtain ⟨n, hn⟩ : ∃ n, n = t.len := ⟨_, rfl⟩
  have hna : wn a = s.len := hsl.symm
  have hnb : wn b = n := by rw [hn]; exact htl.symm
  have hal := lt_wn a
  rw [hna] at ha hal
  rw [hnb] at hwv hlo
  have hcmp := ref1_NatCmp_spec hs ht (by omega)
  obtain ⟨v1, hv1⟩ : ∃ v1, v1 = (dig vN).getD (n - 1) 0 := ⟨_, rfl⟩
  obtain ⟨v2, hv2⟩ : ∃ v2, v2 = (dig vN).getD (n - 2) 0 := ⟨_, rfl⟩
  refine ref1_NatDiv_vc s t V _
    (fun c x V' => ∃ (v : Sl) (j : Nat) (u qd : List Nat), c = C_ref1_NatDiv_0.mk (sh : Nat) v (n : Nat) (m - n) (m - n) ∧ NatAt V' v vN ∧ x = L_ref1_NatDiv_0.mk ((j : Int) - 1) (wv u) (wv qd) ∧ DivI X vN n m j u qd)
    (fun _ x _ => (x.t13 + 1).toNat)
    (fun c x _ => ∃ (v : Sl) (j g : Nat) (u qd : List Nat), c = C_ref1_NatDiv_1.mk (sh : Nat) v (n : Nat) (m - n) (m - n) (j : Nat) (wv u) (wv qd) ∧ x = L_ref1_NatDiv_1.mk (g : Nat) ∧ g < 4294967296 ∧ seg u j (n + 1) / vN ≤ g ∧ (g - 1) * vN ≤ seg u j (n + 1))
    (fun c x _ => ∃ (v : Sl) (j g r : Nat) (u qd : List Nat), c = C_ref1_NatDiv_2.mk (sh : Nat) v (n : Nat) (m - n) (m - n) (j : Nat) (wv u) (wv qd) ∧ x = L_ref1_NatDiv_2.mk (g : Nat) (r : Nat) ∧ r < 4294967296 ∧ g * v1 + r = u.getD (j + n) 0 * 4294967296 + u.getD (j + n - 1) 0 ∧
      seg u j (n + 1) / vN ≤ g)
    (fun _ x _ => x.t15.toNat)
    (fun c x _ => ∃ (v : Sl) (j g i cr bo : Nat) (u qd u0 : List Nat), c = C_ref1_NatDiv_3.mk (sh : Nat) v (n : Nat) (m - n) (m - n) (j : Nat) (g : Nat) ∧ x = L_ref1_NatDiv_3.mk (bo : Nat) (cr : Nat) (i : Nat) (wv u) (wv qd) ∧ TakeI X vN n m j g i cr bo u qd u0)
    (fun _ x _ => (n - x.t19).toNat)
    (fun c x _ => ∃ (v : Sl) (j g k cr : Nat) (u qd u0 l' : List Nat), c = C_ref1_NatDiv_4.mk (sh : Nat) v (n : Nat) (m - n) (m - n) (j : Nat) ((g - 1 : Nat) : Int) ∧ x = L_ref1_NatDiv_4.mk (cr : Nat) (k : Nat) (wv u) (wv qd) ∧ 0 < g ∧ BackI X vN n m j g k cr u qd u0 l')
    (fun _ x _ => (n - x.t23).toNat)
    (hcmp.mono fun v V1 l1 hv => ⟨_, hv, fun hlt => ?_, fun hge => ⟨fun h1 => ?_, fun h2 => ?_⟩⟩)
  · -- a below b
    have hlt : a < b := by
      rcases Nat.lt_or_ge a b with h | h
      · exact h
      · exfalso; revert hlt; rw [if_neg (by omega)]; split <;> simp
    exact ⟨_, _, rfl, by rw [Nat.div_eq_of_lt hlt]; exact NatAt.zero V1, by rw [Nat.mod_eq_of_lt hlt]; exact hs.le l1⟩
  · -- one word
    have h1 : n = 1 := by have : (t.len : Int) = 1 := (by simpa using h1); omega
    have hb1 : b < 4294967296 := by have := lt_wn b; rw [hnb, h1] at this; simpa using this
    have hd : (dig b).getD 0 0 = b := by rw [dig_getD]; simp; omega
    have hg := (ht.le l1).get (i := 0) (by omega) (by omega)
    simp only [Int.toNat_zero, hd] at hg
    refine ⟨⟨by omega, by omega, ht.isSome (by omega)⟩, _, hg, ?_⟩
    refine (ref1_natDigit_spec (hs.le l1) (by omega) (by omega) hb1).mono fun v V2 l2 ⟨q, hv, hq⟩ => ⟨q, _, hv, ?_⟩
    have hmod : a % b < b := Nat.mod_lt _ (by omega)
    rw [u64w (by omega) (by omega)]
    refine (ref1_NatOf_spec (by omega) (by omega)).mono fun v V3 l3 ⟨r, hv, hr⟩ => ⟨r, hv, q, r, rfl, hq.le l3, ?_⟩
    rw [Int.toNat_natCast] at hr; exact hr
  -- many words
  have hab : b ≤ a := by
    rcases Nat.lt_or_ge a b with h | h
    · exfalso; revert hge; rw [if_pos h]; simp
    · exact h
  have hnm : n ≤ s.len := by rw [← hna, ← hnb]; exact wn_mono hab
  have hn0 : n ≠ 0 := by rw [← hnb]; intro e; exact hb0 (wn_eq_zero.1 e)
  have hn2 : 2 ≤ n := by have : ¬ (t.len : Int) = 1 := (by simpa using h2); omega
  have E2 : IntKind.i64.wrap ((s.len : Int) + 1) = (m : Nat) := by rw [i64w (by omega) (by omega)]; omega
  have E3 : IntKind.i64.wrap ((m : Int) - (n : Int)) = ((m - n : Nat) : Int) := by rw [i64w (by omega) (by omega)]; omega
  have E1 : IntKind.i64.wrap ((n : Int) - 1) = ((n - 1 : Nat) : Int) := by rw [i64w (by omega) (by omega)]; omega
  have E4 : IntKind.i64.wrap ((n : Int) - 2) = ((n - 2 : Nat) : Int) := by rw [i64w (by omega) (by omega)]; omega
  have E5 : IntKind.i64.wrap (((m - n : Nat) : Int) - 1) = ((m - n : Nat) : Int) - 1 := by rw [i64w (by omega) (by omega)]
  have E6 : (t.len : Int) = (n : Nat) := by omega
  have hblb := bl_wn hb0
  have hbltop : bl ((dig b).getD (wn b - 1) 0) ≤ 32 := by
    have h3 := (top_bounds hb0).2.2
    have := bl_le h3
    have := (WB_dig b).getD (wn b - 1)
    have := (Nat.pow_lt_pow_iff_right (a := 2) (n := bl ((dig b).getD (wn b - 1) 0) - 1) (m := 32) (by omega)).1 (by omega)
    omega
  have Esh : IntKind.i64.wrap (IntKind.i64.wrap (32 * (t.len : Int)) - (bl b : Nat)) = (sh : Nat) := by
    rw [i64w (n := 32 * (t.len : Int)) (by omega) (by omega), i64w (by omega) (by omega)]; omega
  refine (ref1_NatBits_spec (ht.le l1) (by omega)).mono fun v V4 l4 hv => ⟨_, hv, ?_⟩
  simp only [Esh]
  refine (ref1_NatShl_spec (ht.le (View.le_trans l1 l4)) (by omega) (by omega)).mono fun v V5 l5 ⟨w, hv, hw⟩ => ⟨w, hv, ?_⟩
  rw [← hvN] at hw
  have hwl : w.len = n := by have := hw.len; simp only [wn] at hwv; omega
  simp only [E2, Int.toNat_natCast, hwl, E3, E1, E4, E5]
  refine ⟨⟨by omega, by omega, by omega, by omega⟩, (ref1_NatShl_spec (hs.le (View.le_trans l1 (View.le_trans l4 l5))) (by omega) (by omega)).mono fun v V6 l6 ⟨ua, hv, hua⟩ => ⟨ua, hv, ?_⟩⟩
  rw [← hX] at hua
  have hXm : wn X ≤ m := by
    refine wn_le_of_lt ?_
    rw [hX, hm, Nat.pow_succ]
    exact Nat.mul_lt_mul'' hal (Nat.lt_of_le_of_lt (Nat.pow_le_pow_right (by omega) hsh1) (by omega))
  have hual := hua.len
  simp only [wn] at hXm
  refine ⟨wv (dig X), Words.has hua, by rw [wv_length]; omega, ?_, ?_, ?_, ⟨by omega, by omega, by omega, by omega⟩, ?_⟩
  · by_cases h0 : ua.len = 0
    · left; have : (dig X).length = 0 := by omega
      rw [List.eq_nil_of_length_eq_zero this]; rfl
    · right; exact hua.isSome (by omega)
  · intro v hv; simp only [wv, List.mem_map] at hv; obtain ⟨d, _, rfl⟩ := hv; rfl
  · rw [wv_zeros, wv_length, wv_length]; simp; omega
  rw [wv_zeros, wv_zeros, setL_wv m (dig X) (by omega)]
  have hq0 : seg (dig X ++ List.replicate (m - (dig X).length) 0) 0 m = X := by
    rw [seg_all (by simp; omega), wval_pad, wval_dig]
  have h7 := div_first hal hm hX hsh1 (by omega) (by omega) hlo _ hq0
  refine ⟨⟨w, m - n, _, _, rfl, hw.le l6, rfl, by omega, ?_, by simp; omega, WB.zeros _, by simp, ?_, h7⟩, ?_⟩
  · intro d hd
    rcases List.mem_append.1 hd with hd | hd
    · exact WB_dig X d hd
    · rw [(List.mem_replicate.1 hd).2]; omega
  · rw [show m - n + n = m by omega, hq0, Nat.sub_self, seg_zero]; simp
  rintro _ V7 hle7 ⟨w', j, u, qd, hc, hw7, rfl, hD⟩
  obtain rfl : w' = w := by simp only [C_ref1_NatDiv_0.mk.injEq] at hc; exact hc.2.1.symm
  have hjl := hD.jl
  have hlu := hD.lu
  have hlq := hD.lq
  have hwu := hD.wu
  simp only [sh32_64]
  refine ⟨fun hp => ?_, fun hp b1 V12 l12 hb1 b2 V13 l13 hb2 => ?_⟩
  · simp only [ge_iff_le, decide_eq_true_eq] at hp
    obtain ⟨i, rfl⟩ : ∃ i, j = i + 1 := ⟨j - 1, by omega⟩
    have e0 : (((i + 1 : Nat) : Int) - 1) = (i : Nat) := by omega
    simp only [e0]
    have F1 : IntKind.i64.wrap ((i : Int) + (n : Int)) = ((i + n : Nat) : Int) := by rw [i64w (by omega) (by omega)]; omega
    have F2 : IntKind.i64.wrap (((i + n : Nat) : Int) - 1) = ((i + n - 1 : Nat) : Int) := by rw [i64w (by omega) (by omega)]; omega
    have F3 : IntKind.i64.wrap (((i + n : Nat) : Int) - 2) = ((i + n - 2 : Nat) : Int) := by rw [i64w (by omega) (by omega)]; omega
    have F4 : IntKind.i64.wrap ((i : Int) - 1) = (i : Int) - 1 := by rw [i64w (by omega) (by omega)]
    simp only [F1, F2, F3, F4, Int.toNat_natCast, Nat.zero_add, Nat.mul_one]
    have G := guess_of hwu hn2 hwv hD.lt
    rw [← hv1, ← hv2] at G
    obtain ⟨W, hW⟩ : ∃ W, W = seg u i (n + 1) := ⟨_, rfl⟩
    obtain ⟨u2, hu2⟩ : ∃ x, x = u.getD (i + n) 0 := ⟨_, rfl⟩
    obtain ⟨u1, hu1⟩ : ∃ x, x = u.getD (i + n - 1) 0 := ⟨_, rfl⟩
    obtain ⟨u0, hu0⟩ : ∃ x, x = u.getD (i + n - 2) 0 := ⟨_, rfl⟩
    rw [← hW, ← hu2, ← hu1, ← hu0] at G
    have hu2l : u2 < 4294967296 := by rw [hu2]; exact hwu.getD _
    have hv1l := G.h1
    have hv1p := G.pos
    have hu1l := G.k1
    have hv1b : 2147483648 ≤ v1 := by
      have hvn0 : vN ≠ 0 := by rintro rfl; rw [wn_zero] at hwv; omega
      have h3 := (top_bounds hvn0).2.1
      rw [hwv, ← hv1] at h3
      have h4 : 2147483648 * 4294967296 ^ (n - 1) < (v1 + 1) * 4294967296 ^ (n - 1) := by omega
      have := Nat.lt_of_mul_lt_mul_right h4
      omega
    have gv1 := (hw7).get (i := ((n - 1 : Nat) : Int)) (by omega) (by omega)
    rw [Int.toNat_natCast, ← hv1, Nat.mul_one] at gv1
    have gv2 := (hw7).get (i := ((n - 2 : Nat) : Int)) (by omega) (by omega)
    rw [Int.toNat_natCast, ← hv2, Nat.mul_one] at gv2
    have hws := hw7.isSome (by omega)
    have hor : BitVec.toNat ((BitVec.ofInt IntKind.u64.bits (IntKind.u64.wrap ((IntKind.u64.wrap (u2 : Int)) * 4294967296))) ||| (BitVec.ofInt IntKind.u64.bits (IntKind.u64.wrap (u1 : Int)))) = u2 * 4294967296 + u1 := by
      rw [u64w (n := (u2 : Int)) (by omega) (by omega), u64w (n := (u1 : Int)) (by omega) (by omega), u64w (by omega) (by omega), show (u2 : Int) * 4294967296 = ((u2 * 4294967296 : Nat) : Int) by omega]
      exact or64 hu1l hu2l
    refine ⟨⟨by omega, by omega⟩, _, wv_get (by omega), ⟨by omega, by omega⟩, _, wv_get (by omega), ⟨by omega, by omega, hws⟩, _, gv1, ?_, ⟨by omega, by omega, hws⟩, _, gv1, ?_, ⟨?_, ?_⟩, ?_⟩
    · rw [u64w (by omega) (by omega)]; omega
    · rw [u64w (by omega) (by omega)]; omega
    · -- the first guess
      rw [← hu2, ← hu1, hor, u64w (n := (v1 : Int)) (by omega) (by omega), u64w (n := ((u2 * 4294967296 + u1 : Nat) : Int)) (by omega) (by omega), ← Int.ofNat_tdiv, ← Int.ofNat_tmod]
      have h3 : (u2 * 4294967296 + u1) / v1 ≤ u2 * 4294967296 + u1 := Nat.div_le_self _ _
      have h4 : (u2 * 4294967296 + u1) % v1 < v1 := Nat.mod_lt _ hv1p
      have h5 := Nat.div_add_mod' (u2 * 4294967296 + u1) v1
      have h6 := G.init
      generalize (u2 * 4294967296 + u1) / v1 = g at *
      generalize (u2 * 4294967296 + u1) % v1 = r at *
      rw [u64w (n := (g : Int)) (by omega) (by omega)]
      refine ⟨w', i, g, r, u, qd, rfl, rfl, by omega, ?_, ?_⟩
      · rw [← hu2, ← hu1]; exact h5
      · rw [← hW]; exact h6
    · -- the guess is put down
      rintro _ V9 l9 ⟨w2, i2, g, r, u', qd', hc2, rfl, hr, hgr, hge⟩
      simp only [C_ref1_NatDiv_2.mk.injEq] at hc2
      obtain ⟨_, rfl, _, _, _, hi2, hu', hq'⟩ := hc2
      obtain rfl : i2 = i := by omega
      obtain rfl := wv_inj hu'
      obtain rfl := wv_inj hq'
      rw [← hu2, ← hu1] at hgr
      rw [← hW] at hge
      have hgl : g < 8589934592 := by
        rcases Nat.lt_or_ge g 8589934592 with h | h
        · exact h
        · exfalso
          have := Nat.mul_le_mul h hv1b
          omega
      have gv1' := View.load_le l9 gv1
      have gv2' := View.load_le l9 gv2
      simp only
      -- a step down
      have down : 0 < g → W / vN ≤ g - 1 → (4294967296 ≤ r + v1 → (g - 1 - 1) * vN ≤ W ∧ g - 1 < 4294967296) →
          ((decide (((IntKind.u64.wrap ((r : Int) + (IntKind.u64.wrap (v1 : Int)))) : Int) ≥ 4294967296)) = true →
            ∃ (v : Sl) (j g' : Nat) (u1 qd1 : List Nat), C_ref1_NatDiv_1.mk (sh : Nat) w' (n : Nat) (m - n) (m - n) (i2 : Nat) (wv u) (wv qd) = C_ref1_NatDiv_1.mk (sh : Nat) v (n : Nat) (m - n) (m - n) (j : Nat) (wv u1) (wv qd1) ∧ L_ref1_NatDiv_1.mk (IntKind.u64.wrap ((g : Int) - 1)) = L_ref1_NatDiv_1.mk (g' : Nat) ∧ g' < 4294967296 ∧ seg u1 j (n + 1) / vN ≤ g' ∧ (g' - 1) * vN ≤ seg u1 j (n + 1)) ∧
          ((decide (((IntKind.u64.wrap ((r : Int) + (IntKind.u64.wrap (v1 : Int)))) : Int) ≥ 4294967296)) = false →
            (∃ (v : Sl) (j g' r' : Nat) (u1 qd1 : List Nat), C_ref1_NatDiv_2.mk (sh : Nat) w' (n : Nat) (m - n) (m - n) (i2 : Nat) (wv u) (wv qd) = C_ref1_NatDiv_2.mk (sh : Nat) v (n : Nat) (m - n) (m - n) (j : Nat) (wv u1) (wv qd1) ∧
              L_ref1_NatDiv_2.mk (IntKind.u64.wrap ((g : Int) - 1)) (IntKind.u64.wrap ((r : Int) + (IntKind.u64.wrap (v1 : Int)))) = L_ref1_NatDiv_2.mk (g' : Nat) (r' : Nat) ∧ r' < 4294967296 ∧ g' * v1 + r' = u1.getD (j + n) 0 * 4294967296 + u1.getD (j + n - 1) 0 ∧ seg u1 j (n + 1) / vN ≤ g') ∧
            (IntKind.u64.wrap ((g : Int) - 1)).toNat < (g : Int).toNat) := by
        intro h0 h1 h2
        rw [u64w (n := (v1 : Int)) (by omega) (by omega), u64w (n := (r : Int) + v1) (by omega) (by omega), u64w (n := (g : Int) - 1) (by omega) (by omega)]
        have e1 : (g : Int) - 1 = ((g - 1 : Nat) : Int) := by omega
        have e2 : (r : Int) + v1 = ((r + v1 : Nat) : Int) := by omega
        rw [e1, e2]
        refine ⟨fun h => ?_, fun h => ?_⟩
        · simp only [ge_iff_le, decide_eq_true_eq] at h
          obtain ⟨h3, h4⟩ := h2 (by omega)
          exact ⟨w', i2, g - 1, u, qd, rfl, rfl, h4, by rw [← hW]; exact h1, by rw [← hW]; exact h3⟩
        · simp only [ge_iff_le, decide_eq_false_iff_not] at h
          refine ⟨⟨w', i2, g - 1, r + v1, u, qd, rfl, rfl, by omega, ?_, by rw [← hW]; exact h1⟩, by omega⟩
          rw [← hu2, ← hu1, ← hgr]
          obtain ⟨k, rfl⟩ : ∃ k, g = k + 1 := ⟨g - 1, by omega⟩
          rw [Nat.succ_mul, Nat.add_sub_cancel]; omega
      refine ⟨fun hp2 => ⟨fun _ => ?_, fun h => by cases h⟩, fun hp2 => ?_⟩
      · simp only [ge_iff_le, decide_eq_true_eq] at hp2
        have hq := G.quo
        refine ⟨⟨by omega, by omega, hws⟩, _, gv1', ?_⟩
        exact down (by omega) (by omega) (fun h => (G.brk hgr (by omega) h).symm)
      · simp only [ge_iff_le, decide_eq_false_iff_not] at hp2
        have hg32 : g < 4294967296 := by omega
        have hv2l := G.h2
        have hm1 := mul_word hg32 hv2l
        have hu0l := G.k0
        refine ⟨⟨by omega, by omega, hws⟩, _, gv2', ⟨by omega, by omega⟩, _, wv_get (by omega), ?_⟩
        rw [← hu0]
        have hor2 : BitVec.toNat ((BitVec.ofInt IntKind.u64.bits (IntKind.u64.wrap ((r : Int) * 4294967296))) ||| (BitVec.ofInt IntKind.u64.bits (IntKind.u64.wrap (u0 : Int)))) = r * 4294967296 + u0 := by
          rw [u64w (n := (u0 : Int)) (by omega) (by omega), u64w (by omega) (by omega), show (r : Int) * 4294967296 = ((r * 4294967296 : Nat) : Int) by omega]
          exact or64 hu0l hr
        rw [hor2, u64w (n := (v2 : Int)) (by omega) (by omega), ← Int.natCast_mul, u64w (n := ((g * v2 : Nat) : Int)) (by omega) (by omega), u64w (n := ((r * 4294967296 + u0 : Nat) : Int)) (by omega) (by omega)]
        refine ⟨fun hp3 => ?_, fun hp3 => ?_⟩
        · simp only [gt_iff_lt, decide_eq_true_eq] at hp3
          have hd := G.dec hgr (by omega)
          refine ⟨⟨by omega, by omega, hws⟩, _, gv1', ?_⟩
          have hg0 : 0 < g := Nat.lt_of_le_of_lt (Nat.zero_le _) hd
          exact down hg0 (Nat.le_sub_one_of_lt hd) (fun h => (G.brk hgr hg0 h).symm)
        · simp only [gt_iff_lt, decide_eq_false_iff_not] at hp3
          exact ⟨w', i2, g, u, qd, rfl, rfl, hg32, by rw [← hW]; exact hge, by rw [← hW]; exact G.exit hgr hg32 (by omega)⟩
    · -- the guess is taken
      rintro _ V8 l8 ⟨w2, i2, g, u', qd', hc2, rfl, hg32, hge, hgl⟩
      simp only [C_ref1_NatDiv_1.mk.injEq] at hc2
      obtain ⟨_, rfl, _, _, _, hi2, hu', hq'⟩ := hc2
      obtain rfl : i2 = i := by omega
      obtain rfl := wv_inj hu'
      obtain rfl := wv_inj hq'
      refine ⟨⟨w', i2, g, 0, 0, 0, u, qd, u, rfl, rfl, hD, hn2, by omega, hwv, hg32, hge, hgl, by omega, hwu, hlu, by omega, by omega, fun _ _ => rfl, by simp [seg_zero, wval]⟩, ?_⟩
      clear G hge hgl gv1 gv2 hor hq0 h7 hXm hual hua hcmp hlo hX hvN hsh hblb hbltop Esh hv1 hv2 hu2 hu1 hu0 hW
      rintro _ V10 l10 ⟨w2, i9, g9, k, c0, b0, u9, qd9, u00, hc9, rfl, hT⟩
      simp only [C_ref1_NatDiv_3.mk.injEq] at hc9
      obtain ⟨_, rfl, _, _, _, hi9, hgg⟩ := hc9
      obtain rfl : i2 = i9 := by omega
      obtain rfl : g = g9 := by omega
      have hjn := hT.jn
      have hkn := hT.i_le
      have hlu9 := hT.lu
      have hlq9 := hT.div.lq
      have hme : ((i2 : Int) - 1 + 1).toNat < (((i2 + 1 : Nat) : Int)).toNat := by omega
      simp only [sh63_64, Int.toNat_natCast]
      refine ⟨fun hp2 => ?_, fun hp2 => ?_⟩
      · simp only [decide_eq_true_eq] at hp2
        have hkn : k < n := by omega
        have K1 : IntKind.i64.wrap ((k : Int) + i2) = ((i2 + k : Nat) : Int) := by rw [i64w (by omega) (by omega)]; omega
        simp only [K1, Int.toNat_natCast]
        have gk := (hw7.le (View.le_trans l8 l10)).get (i := (k : Nat)) (by omega) (by omega)
        simp only [Int.toNat_natCast, Nat.mul_one] at gk
        refine ⟨⟨by omega, by omega, hws⟩, _, gk, ⟨by omega, by omega⟩, _, wv_get (by omega), ⟨by omega, by omega⟩, by rw [wv_length]; omega, ?_⟩
        obtain ⟨low, br, c, e1, e2, e3, hT'⟩ := hT.step hkn
        rw [e1, e2, e3, wv_set, i64w (n := (k : Int) + 1) (by omega) (by omega)]
        exact ⟨⟨w', i2, g, k + 1, c, br, _, qd9, u00, rfl, rfl, hT'⟩, by omega⟩
      simp only [decide_eq_false_iff_not] at hp2
      obtain rfl : n = k := by omega
      refine ⟨⟨by omega, by omega⟩, _, wv_get (by omega), ⟨by omega, by omega⟩, by rw [wv_length]; omega, ?_⟩
      obtain ⟨low, br, e1, e2, hl', hb1, hb0⟩ := hT.last
      rw [e1, e2, wv_set]
      refine ⟨fun hn1 => ?_, fun hn1 => ?_⟩
      · -- one too many: it is added back
        obtain ⟨hB, hg0⟩ := hb1 (by have : (br : Int) = 1 := (by simpa using hn1); omega)
        rw [u64w (n := (g : Int) - 1) (by omega) (by omega), show (g : Int) - 1 = ((g - 1 : Nat) : Int) by omega]
        refine ⟨⟨w', i2, g, 0, 0, _, qd9, u00, _, rfl, rfl, hg0, hB⟩, ?_⟩
        clear hT hB hb1 hb0 hl' e1 e2
        rintro _ V11 l11 ⟨w3, i3, g3, k3, cr, u3, qd3, u03, l3, hc3, rfl, hg3, hB⟩
        simp only [C_ref1_NatDiv_4.mk.injEq] at hc3
        obtain ⟨_, rfl, _, _, _, hi3, hg3'⟩ := hc3
        obtain rfl : i2 = i3 := by omega
        obtain rfl : g = g3 := by omega
        have hjn := hB.jn
        have hkn := hB.k_le
        have hlu3 := hB.lu
        have hlq3 := hB.div.lq
        simp only [Int.toNat_natCast]
        refine ⟨fun hp4 => ?_, fun hp4 => ?_⟩
        · simp only [decide_eq_true_eq] at hp4
          have hkn : k3 < n := by omega
          have K1 : IntKind.i64.wrap ((k3 : Int) + i2) = ((i2 + k3 : Nat) : Int) := by rw [i64w (by omega) (by omega)]; omega
          simp only [K1, Int.toNat_natCast]
          have gk := (hw7.le (View.le_trans l8 (View.le_trans l10 l11))).get (i := (k3 : Nat)) (by omega) (by omega)
          simp only [Int.toNat_natCast, Nat.mul_one] at gk
          refine ⟨⟨by omega, by omega⟩, _, wv_get (by omega), ⟨by omega, by omega, hws⟩, _, gk, ⟨by omega, by omega⟩, by rw [wv_length]; omega, ?_⟩
          obtain ⟨low, c, e1, e2, hB'⟩ := hB.step hkn
          rw [e1, e2, wv_set, i64w (n := (k3 : Int) + 1) (by omega) (by omega)]
          exact ⟨⟨w', i2, g, k3 + 1, c, _, qd3, u03, l3, rfl, rfl, hg3, hB'⟩, by omega⟩
        · simp only [decide_eq_false_iff_not] at hp4
          obtain rfl : n = k3 := by omega
          refine ⟨⟨by omega, by omega⟩, _, wv_get (by omega), ⟨by omega, by omega⟩, by rw [wv_length]; omega, ⟨by omega, by omega⟩, by rw [wv_length]; omega, ?_⟩
          obtain ⟨low, e1, hD'⟩ := hB.last
          rw [u32w (n := ((g - 1 : Nat) : Int)) (by omega) (by omega), e1, wv_set, wv_set]
          exact ⟨⟨w', i2, _, _, rfl, hw7.le (View.le_trans l8 (View.le_trans l10 l11)), rfl, hD'⟩, hme⟩
      · -- the guess is right
        have hD' := hb0 (fun h => by rw [h] at hn1; simp at hn1)
        rw [u32w (n := (g : Int)) (by omega) (by omega), wv_set]
        exact ⟨⟨by omega, by omega⟩, by rw [wv_length]; omega, ⟨w', i2, _, _, rfl, hw7.le (View.le_trans l8 l10), rfl, hD'⟩, hme⟩
  · -- the end
    simp only [ge_iff_le, decide_eq_false_iff_not] at hp
    obtain rfl : j = 0 := by omega
    have heq := hD.eq
    have hlt0 := hD.lt
    rw [Nat.zero_add, Nat.pow_zero, Nat.one_mul, Nat.sub_zero] at heq
    obtain ⟨hq1, hr1⟩ := div_last hX hvN hb0 heq hlt0
    have hwq : Words V12 (Sl.mk (some (Addr.mk b1 0 none)) (m - n) (m - n)) qd := Words.of_block hb1 (by omega) (Nat.le_refl _) hD.wq
    have hwr : Words V13 (Sl.mk (some (Addr.mk b2 0 none)) m m) u := Words.of_block hb2 (by omega) (Nat.le_refl _) hwu
    refine ⟨⟨by omega, by omega, by omega⟩, (ref1_trim_spec (Words.le l13 hwq) (by omega)).mono fun v V14 l14 ⟨q, hv, hq⟩ => ⟨q, hv, ?_⟩⟩
    have hwr2 : Words V14 (Sl.mk (some (Addr.mk b2 0 none)) n m) (u.take n) := Words.le l14 (Words.pre hwr (k := n) (c := m) (by omega) (by omega))
    have hl50 : (u.take n).length ≤ 2 ^ 50 := by rw [List.length_take]; omega
    have hz : Int.toNat 0 = 0 := rfl
    have hm0 : ¬ m = 0 := by omega
    have hadd : Option.map (fun q => Addr.add q 0) (some (Addr.mk b2 0 none)) = some (Addr.mk b2 0 none) := by simp [Addr.add]
    simp only [hz, hm0, if_false, Nat.zero_mul, hadd, Nat.sub_zero]
    have htr := ref1_trim_spec hwr2 hl50
    refine htr.mono fun v V15 l15 ⟨r, hv, hr⟩ => ⟨r, hv, ?_⟩
    rw [← seg_take] at hr
    have hrw : wn (seg u 0 n) ≤ 2 ^ 44 := by
      have := wn_le_of_lt (seg_lt hwu 0 n)
      omega
    refine (ref1_NatShr_spec hr hrw (by omega)).mono fun v V16 l16 ⟨r2, hv, hr2⟩ => ⟨r2, hv, q, r2, rfl, ?_, ?_⟩
    · rw [← hq1, seg_all (by omega)]; exact hq.le (View.le_trans l15 l16)
    · rw [← hr1]; exact hr2

end Go.Proofs.YtcapadojlaojkaaGreat

namespace Go.Proofs.YtcapadojlaojkaaGreat
open Go Go.Vc Go.Proofs

theorem ref1_NatGcd_spec {V : View} {s t : Sl} {a b : Nat} (hs : NatAt V s a) (ht : NatAt V t b) (ha : wn a ≤ 2 ^ 43) (hb : wn b ≤ 2 ^ 43) :
    CallV Tryz.prog n_ref1_NatGcd #[s.v, t.v] V fun v V' => ∃ r : Sl, v = r.v ∧ NatAt V' r (Nat.gcd a b) := by
  refine ref1_NatGcd_vc s t V _ (fun _ x V' => ∃ a' b', NatAt V' x.t0 a' ∧ NatAt V' x.t1 b' ∧ wn a' ≤ 2 ^ 43 ∧ wn b' ≤ 2 ^ 43 ∧ Nat.gcd a' b' = Nat.gcd a b) (fun _ x V' => natVal V' x.t1) ⟨⟨a, b, hs, ht, ha, hb, rfl⟩, ?_⟩
  rintro ⟨x, y⟩ V1 l1 ⟨a', b', hx, hy, wa, wb, hg⟩
  simp only at hx hy ⊢
  have hyl := hy.len
  refine ⟨fun hp => ?_, fun hp => ?_⟩
  · simp only [gt_iff_lt, decide_eq_true_eq] at hp
    have hb0 : b' ≠ 0 := fun e => by rw [← hy.len_zero] at e; omega
    refine (ref1_NatDiv_spec hx hy wa hb0).mono fun v V2 l2 ⟨q, r, hv, hq, hr⟩ => ⟨q, r, hv, ?_⟩
    have hlt : a' % b' < b' := Nat.mod_lt _ (by omega)
    have hwr : wn (a' % b') ≤ wn b' := wn_mono (Nat.le_of_lt hlt)
    refine ⟨⟨b', a' % b', hy.le l2, hr, wb, by omega, ?_⟩, ?_⟩
    · rw [Nat.gcd_comm, ← Nat.gcd_rec, Nat.gcd_comm]; exact hg
    · rw [natVal_eq hr, natVal_eq hy]; exact hlt
  · simp only [gt_iff_lt, decide_eq_false_iff_not] at hp
    have hb0 : b' = 0 := hy.len_zero.1 (by omega)
    subst hb0
    rw [Nat.gcd_zero_right] at hg
    exact ⟨x, rfl, by rw [← hg]; exact hx⟩

theorem ref1_signed_spec {V : View} {s : Sl} {n : Nat} (neg : Bool) (h : NatAt V s n) :
    CallV Tryz.prog n_ref1_signed #[.bool neg, s.v] V fun v V' => ∃ r : WhV, v = r.val ∧ IntAt V' r (if neg = true then -(n : Int) else n) := by
  have hl := h.len_zero
  refine ref1_signed_vc neg s V _ ⟨fun hn => ⟨_, rfl, ?_, ?_⟩, fun hn => ⟨_, rfl, ?_, ?_⟩⟩
  · rw [if_pos hn]; simp only [gt_iff_lt, decide_eq_decide]; omega
  · rw [if_pos hn]; simpa using h
  · rw [if_neg (by simp [hn])]; symm; simp only [decide_eq_false_iff_not]; omega
  · rw [if_neg (by simp [hn])]; simpa using h

theorem ref1_IntOf_spec {V : View} {n : Int} (h0 : -9223372036854775808 ≤ n) (h1 : n ≤ 9223372036854775807) :
    CallV Tryz.prog n_ref1_IntOf #[.int .i64 n] V fun v V' => ∃ r : WhV, v = r.val ∧ IntAt V' r n := by
  refine ref1_IntOf_vc n V _ ⟨fun hn => ?_, fun hn => ?_⟩
  · simp only [decide_eq_true_eq] at hn
    have e : IntKind.u64.wrap (IntKind.i64.wrap (0 - n)) = -n := by
      by_cases hm : n = -9223372036854775808
      · subst hm; decide
      · rw [i64w (by omega) (by omega), u64w (by omega) (by omega)]; omega
    rw [e]
    refine (ref1_NatOf_spec (by omega) (by omega)).mono fun v V1 _ ⟨r, hv, hr⟩ => ⟨r, hv, _, rfl, by simp [hn], ?_⟩
    have e2 : n.natAbs = (-n).toNat := by omega
    rw [e2]; exact hr
  · simp only [decide_eq_false_iff_not] at hn
    rw [u64w (by omega) (by omega)]
    refine (ref1_NatOf_spec (by omega) (by omega)).mono fun v V1 _ ⟨r, hv, hr⟩ => ⟨r, hv, _, rfl, by simp [hn], ?_⟩
    have e2 : n.natAbs = n.toNat := by omega
    rw [e2]; exact hr

theorem ref1_IntNeg_spec {V : View} {x : WhV} {a : Int} (h : IntAt V x a) :
    CallV Tryz.prog n_ref1_IntNeg #[x.val] V fun v V' => ∃ r : WhV, v = r.val ∧ IntAt V' r (-a) := by
  refine ref1_IntNeg_vc x V _ ((ref1_signed_spec (!x.neg) h.2).mono fun v V1 _ ⟨r, hv, hr⟩ => ⟨r, hv, r, rfl, ?_⟩)
  have e : (if (!x.neg) = true then -(a.natAbs : Int) else (a.natAbs : Int)) = -a := by
    rw [h.1]; simp only [Bool.not_eq_true', decide_eq_false_iff_not]; split <;> omega
  rw [e] at hr; exact hr

theorem ref1_IntAdd_spec {V : View} {x y : WhV} {a b : Int} (hx : IntAt V x a) (hy : IntAt V y b) (ha : wn a.natAbs ≤ 2 ^ 43) (hb : wn b.natAbs ≤ 2 ^ 43) :
    CallV Tryz.prog n_ref1_IntAdd #[x.val, y.val] V fun v V' => ∃ r : WhV, v = r.val ∧ IntAt V' r (a + b) := by
  have h1 := hx.1
  have h2 := hy.1
  refine ref1_IntAdd_vc x y V _ ⟨fun hs => ?_, fun hs => ?_⟩
  · refine (ref1_NatAdd_spec hx.2 hy.2 (by omega) (by omega)).mono fun v V1 l1 ⟨r, hv, hr⟩ => ⟨r, hv, ?_⟩
    refine (ref1_signed_spec x.neg hr).mono fun v V2 _ ⟨w, hv, hw⟩ => ⟨w, hv, w, rfl, ?_⟩
    have e : (if x.neg = true then -((a.natAbs + b.natAbs : Nat) : Int) else ((a.natAbs + b.natAbs : Nat) : Int)) = a + b := by
      rw [h1, h2] at hs; rw [h1]
      by_cases p : a < 0 <;> by_cases q : b < 0 <;> simp [p, q] at hs ⊢ <;> omega
    rw [e] at hw; exact hw
  · refine (ref1_NatCmp_spec hx.2 hy.2 (by omega)).mono fun v V1 l1 hv => ⟨_, hv, fun hc => ?_, fun hc => ?_⟩
    · have hc : b.natAbs ≤ a.natAbs := by
        rcases Nat.lt_or_ge a.natAbs b.natAbs with h | h
        · rw [if_pos h] at hc; simp at hc
        · exact h
      refine (ref1_NatSub_spec (hx.2.le l1) (hy.2.le l1) (by omega) hc).mono fun v V2 l2 ⟨r, hv, hr⟩ => ⟨r, hv, ?_⟩
      refine (ref1_signed_spec x.neg hr).mono fun v V3 _ ⟨w, hv, hw⟩ => ⟨w, hv, w, rfl, ?_⟩
      have e : (if x.neg = true then -((a.natAbs - b.natAbs : Nat) : Int) else ((a.natAbs - b.natAbs : Nat) : Int)) = a + b := by
        rw [h1, h2] at hs; rw [h1]
        by_cases p : a < 0 <;> by_cases q : b < 0 <;> simp [p, q] at hs ⊢ <;> omega
      rw [e] at hw; exact hw
    · have hc : a.natAbs ≤ b.natAbs := by
        rcases Nat.lt_or_ge b.natAbs a.natAbs with h | h
        · rw [if_neg (by omega), if_neg (by omega)] at hc; simp at hc
        · exact h
      refine (ref1_NatSub_spec (hy.2.le l1) (hx.2.le l1) (by omega) hc).mono fun v V2 l2 ⟨r, hv, hr⟩ => ⟨r, hv, ?_⟩
      refine (ref1_signed_spec y.neg hr).mono fun v V3 _ ⟨w, hv, hw⟩ => ⟨w, hv, w, rfl, ?_⟩
      have e : (if y.neg = true then -((b.natAbs - a.natAbs : Nat) : Int) else ((b.natAbs - a.natAbs : Nat) : Int)) = a + b := by
        rw [h1, h2] at hs; rw [h2]
        by_cases p : a < 0 <;> by_cases q : b < 0 <;> simp [p, q] at hs ⊢ <;> omega
      rw [e] at hw; exact hw

theorem ref1_IntSub_spec {V : View} {x y : WhV} {a b : Int} (hx : IntAt V x a) (hy : IntAt V y b) (ha : wn a.natAbs ≤ 2 ^ 43) (hb : wn b.natAbs ≤ 2 ^ 43) :
    CallV Tryz.prog n_ref1_IntSub #[x.val, y.val] V fun v V' => ∃ r : WhV, v = r.val ∧ IntAt V' r (a - b) := by
  refine ref1_IntSub_vc x y V _ ((ref1_IntNeg_spec hy).mono fun v V1 l1 ⟨r, hv, hr⟩ => ⟨r, hv, ?_⟩)
  rw [Int.sub_eq_add_neg]
  exact (ref1_IntAdd_spec (hx.le l1) hr ha (by rw [Int.natAbs_neg]; exact hb)).mono fun v V2 _ ⟨w, hv, hw⟩ => ⟨w, hv, w, rfl, hw⟩

theorem ref1_IntMul_spec {V : View} {x y : WhV} {a b : Int} (hx : IntAt V x a) (hy : IntAt V y b) (ha : wn a.natAbs ≤ 2 ^ 43) (hb : wn b.natAbs ≤ 2 ^ 43) :
    CallV Tryz.prog n_ref1_IntMul #[x.val, y.val] V fun v V' => ∃ r : WhV, v = r.val ∧ IntAt V' r (a * b) := by
  refine ref1_IntMul_vc x y V _ ((ref1_NatMul_spec hx.2 hy.2 (by omega) (by omega)).mono fun v V1 l1 ⟨r, hv, hr⟩ => ⟨r, hv, ?_⟩)
  refine (ref1_signed_spec (!(x.neg == y.neg)) hr).mono fun v V2 _ ⟨w, hv, hw⟩ => ⟨w, hv, w, rfl, ?_⟩
  have e : (if (!(x.neg == y.neg)) = true then -((a.natAbs * b.natAbs : Nat) : Int) else ((a.natAbs * b.natAbs : Nat) : Int)) = a * b := by
    rw [sign_mul _ _ a b rfl rfl, hx.1, hy.1]
    by_cases p : a < 0 <;> by_cases q : b < 0 <;> simp [p, q]
  rw [e] at hw; exact hw

theorem NatAt.lit {V : View} {b n : Nat} (h : V b = some #[.int .u32 (n : Int)]) (h0 : n ≠ 0) (h1 : n < 4294967296) : NatAt V (Sl.mk (some (Addr.mk b 0 none)) 1 1) n := by
  have e : dig n = [n] := by
    have h2 : n / 4294967296 = 0 := Nat.div_eq_of_lt h1
    rw [dig_pos h0, h2, dig_zero, Nat.mod_eq_of_lt h1]
  unfold NatAt
  rw [e]
  exact Words.of_block (by rw [h]; rfl) rfl (Nat.le_refl _) (by intro d hd; simp at hd; omega)
theorem dig_one : dig 1 = [1] := by rw [dig_pos (by omega)]; simp [dig_zero]
theorem IntAt.ofNat {V : View} {s : Sl} {n : Nat} (h : NatAt V s n) : IntAt V (WhV.mk false s) (n : Int) := ⟨by simp, h⟩

/-- (a + b i)/d in lowest terms. -/
theorem ref1_Make_spec {V : View} {x y : WhV} {s : Sl} {z : Cq} {a b : Int} {d : Nat} (hx : IntAt V x a) (hy : IntAt V y b) (hs : NatAt V s d) (hz : Rep z a b d) (ha : wn a.natAbs ≤ 2 ^ 43) (hb : wn b.natAbs ≤ 2 ^ 43) (hd : wn d ≤ 2 ^ 43) :
    CallV Tryz.prog n_ref1_Make #[x.val, y.val, s.v] V fun v V' => ∃ r : NumV, v = r.val ∧ QAt V' r z := by
  obtain ⟨e1, e2, e3⟩ := hz.eqs
  have hp := gcd3_pos a b hz.pos
  have d1 := gcd3_dvd1 a b d
  have d2 := gcd3_dvd2 a b d
  have d3 := gcd3_dvd3 a b d
  refine ref1_Make_vc x y s V _ ((ref1_NatGcd_spec hx.2 hy.2 ha hb).mono fun v V1 l1 ⟨r1, hv, h1⟩ => ⟨r1, hv, ?_⟩)
  have hw1 : wn (Nat.gcd a.natAbs b.natAbs) ≤ 2 ^ 43 := by
    rcases Nat.eq_zero_or_pos a.natAbs with h | h
    · rw [h, Nat.gcd_zero_left]; exact hb
    · exact Nat.le_trans (wn_mono (Nat.le_of_dvd h (Nat.gcd_dvd_left _ _))) ha
  refine (ref1_NatGcd_spec h1 (hs.le l1) hw1 hd).mono fun v V2 l2 ⟨r2, hv, h2⟩ => ⟨r2, hv, ?_⟩
  have hg : Nat.gcd (Nat.gcd a.natAbs b.natAbs) d = gcd3 a b d := rfl
  rw [hg] at h2
  have l02 := View.le_trans l1 l2
  have h2l := h2.len
  have many : gcd3 a b d ≠ 1 → CallV Tryz.prog n_ref1_NatDiv #[x.mag.v, r2.v] V2 fun v V8 => ∃ (r11 : Sl) (r12 : Sl), v = .tuple #[r11.v, r12.v] ∧
      CallV Tryz.prog n_ref1_NatDiv #[y.mag.v, r2.v] V8 fun v V9 => ∃ (r13 : Sl) (r14 : Sl), v = .tuple #[r13.v, r14.v] ∧
      CallV Tryz.prog n_ref1_NatDiv #[s.v, r2.v] V9 fun v V10 => ∃ (r15 : Sl) (r16 : Sl), v = .tuple #[r15.v, r16.v] ∧
      CallV Tryz.prog n_ref1_signed #[.bool x.neg, r11.v] V10 fun v V11 => ∃ r17 : WhV, v = r17.val ∧
      CallV Tryz.prog n_ref1_signed #[.bool y.neg, r13.v] V11 fun v V12 => ∃ r18 : WhV, v = r18.val ∧ ∃ r : NumV, (NumV.mk r17 r18 r15).val = r.val ∧ QAt V12 r z := by
    intro _
    refine (ref1_NatDiv_spec (hx.2.le l02) h2 ha (by omega)).mono fun v V4 l4 ⟨q1, m1, hv, hq1, _⟩ => ⟨q1, m1, hv, ?_⟩
    refine (ref1_NatDiv_spec (hy.2.le (View.le_trans l02 l4)) (h2.le l4) hb (by omega)).mono fun v V5 l5 ⟨q2, m2, hv, hq2, _⟩ => ⟨q2, m2, hv, ?_⟩
    have l45 := View.le_trans l4 l5
    refine (ref1_NatDiv_spec (hs.le (View.le_trans l02 l45)) (h2.le l45) hd (by omega)).mono fun v V6 l6 ⟨q3, m3, hv, hq3, _⟩ => ⟨q3, m3, hv, ?_⟩
    refine (ref1_signed_spec x.neg (hq1.le (View.le_trans l5 l6))).mono fun v V7 l7 ⟨w1, hv, hw1⟩ => ⟨w1, hv, ?_⟩
    refine (ref1_signed_spec y.neg (hq2.le (View.le_trans l6 l7))).mono fun v V8 l8 ⟨w2, hv, hw2⟩ => ⟨w2, hv, _, rfl, ?_, ?_, ?_⟩
    · rw [e1]
      have e : (if x.neg = true then -((a.natAbs / gcd3 a b d : Nat) : Int) else ((a.natAbs / gcd3 a b d : Nat) : Int)) = a / (gcd3 a b d : Nat) := by
        have k1 := natAbs_div d1
        have k2 := div_lt_zero d1 hp
        rw [← k1, hx.1]
        have k3 : (a / (gcd3 a b d : Nat) < 0) ↔ a < 0 := by simpa using k2
        simp only [decide_eq_true_eq]
        split <;> omega
      rw [e] at hw1; exact hw1.le l8
    · rw [e2]
      have e : (if y.neg = true then -((b.natAbs / gcd3 a b d : Nat) : Int) else ((b.natAbs / gcd3 a b d : Nat) : Int)) = b / (gcd3 a b d : Nat) := by
        have k1 := natAbs_div d2
        have k2 := div_lt_zero d2 hp
        rw [← k1, hy.1]
        have k3 : (b / (gcd3 a b d : Nat) < 0) ↔ b < 0 := by simpa using k2
        simp only [decide_eq_true_eq]
        split <;> omega
      rw [e] at hw2; exact hw2
    · rw [e3]; exact hq3.le (View.le_trans l7 l8)
  refine ⟨fun hn => ?_, fun hn => ⟨fun h => absurd h (by simp), fun _ => ?_⟩⟩
  · have hn : r2.len = 1 := by have : (r2.len : Int) = 1 := (by simpa using hn); omega
    refine ⟨⟨by omega, by omega, h2.isSome (by omega)⟩, _, h2.get (by omega) (by omega), fun hw => ?_, fun hw => ?_⟩
    · have hw : (dig (gcd3 a b d)).getD 0 0 = 1 := by have : (((dig (gcd3 a b d)).getD 0 0 : Nat) : Int) = 1 := of_decide_eq_true (by rw [← hw]; rfl); omega
      have hg1 : gcd3 a b d = 1 := by
        rw [hn] at h2l
        have h3 := wval_dig (gcd3 a b d)
        obtain ⟨w, hw'⟩ : ∃ w, dig (gcd3 a b d) = [w] := List.length_eq_one_iff.1 h2l.symm
        rw [hw'] at hw h3
        simp [wval] at hw h3
        omega
      rw [hg1] at e1 e2 e3
      simp only [Int.natCast_one, Int.ediv_one] at e1 e2
      rw [Nat.div_one] at e3
      exact ⟨_, rfl, by rw [e1]; exact hx.le l02, by rw [e2]; exact hy.le l02, by rw [e3]; exact hs.le l02⟩
    · refine many fun h => ?_
      rw [h, dig_one] at hw; simp at hw
  · refine many fun h => ?_
    rw [h, dig_one] at h2l
    rw [h2l] at hn; simp at hn

theorem ref1_Whole_spec {V : View} {n : Int} (h0 : -9223372036854775808 ≤ n) (h1 : n ≤ 9223372036854775807) :
    CallV Tryz.prog n_ref1_Whole #[.int .i64 n] V fun v V' => ∃ r : NumV, v = r.val ∧ QAt V' r ⟨(n : Rat), 0⟩ := by
  obtain ⟨e1, e2, e3⟩ := Cq.ofInt_eqs n
  refine ref1_Whole_vc n V _ ((ref1_IntOf_spec h0 h1).mono fun v V1 _ ⟨r, hv, hr⟩ => ⟨r, hv, fun b V2 l2 _ hb => ⟨_, rfl, by rw [e1]; exact hr.le l2, by rw [e2]; exact IntAt.zero _, by rw [e3]; exact NatAt.lit hb (by omega) (by omega)⟩⟩)

theorem ref1_New_spec {V : View} {p q d : Int} (p0 : -9223372036854775808 ≤ p) (p1 : p ≤ 9223372036854775807) (q0 : -9223372036854775808 ≤ q) (q1 : q ≤ 9223372036854775807) (d0 : -9223372036854775808 ≤ d) (d1 : d ≤ 9223372036854775807) (hd : d ≠ 0) :
    CallV Tryz.prog n_ref1_New #[.int .i64 p, .int .i64 q, .int .i64 d] V fun v V' => ∃ r : NumV, v = .tuple #[r.val, .int .i64 0] ∧ QAt V' r ⟨(p : Rat) / (d : Rat), (q : Rat) / (d : Rat)⟩ := by
  refine ref1_New_vc p q d V _ ⟨fun h => ?_, fun _ => ?_⟩
  · exact absurd (by simpa using h) hd
  refine (ref1_IntOf_spec d0 d1).mono fun v V1 l1 ⟨c, hv, hc⟩ => ⟨c, hv, ?_⟩
  refine (ref1_IntOf_spec p0 p1).mono fun v V2 l2 ⟨a, hv, ha⟩ => ⟨a, hv, ?_⟩
  refine (ref1_IntOf_spec q0 q1).mono fun v V3 l3 ⟨b, hv, hb⟩ => ⟨b, hv, fun hn => ?_, fun hn => ?_⟩
  · have hneg : d < 0 := by have := hc.1; rw [hn] at this; simpa using this.symm
    refine (ref1_IntNeg_spec (ha.le l3)).mono fun v V4 l4 ⟨a', hv, ha'⟩ => ⟨a', hv, ?_⟩
    refine (ref1_IntNeg_spec (hb.le l4)).mono fun v V5 l5 ⟨b', hv, hb'⟩ => ⟨b', hv, ?_⟩
    refine (ref1_Make_spec (ha'.le l5) hb' (hc.2.le (View.le_trans l2 (View.le_trans l3 (View.le_trans l4 l5)))) ?_ (wn64 (by omega)) (wn64 (by omega)) (wn64 (by omega))).mono fun v V6 l6 ⟨r, hv, hr⟩ => ⟨r, hv, r, rfl, hr⟩
    have e : ((d.natAbs : Nat) : Rat) = -(d : Rat) := by
      have : (d.natAbs : Int) = -d := by omega
      rw [← Rat.intCast_natCast, this]; push_cast; rfl
    refine ⟨by omega, ?_, ?_⟩ <;> (simp only [e]; push_cast; rw [Rat.div_def, Rat.div_def]; grind)
  · have hpos : ¬ d < 0 := by have := hc.1; rw [hn] at this; simpa using this.symm
    refine (ref1_Make_spec (ha.le l3) hb (hc.2.le (View.le_trans l2 l3)) ?_ (wn64 (by omega)) (wn64 (by omega)) (wn64 (by omega))).mono fun v V6 l6 ⟨r, hv, hr⟩ => ⟨r, hv, r, rfl, hr⟩
    have e : ((d.natAbs : Nat) : Rat) = (d : Rat) := by
      have : (d.natAbs : Int) = d := by omega
      rw [← Rat.intCast_natCast, this]
    refine ⟨by omega, ?_, ?_⟩ <;> simp only [e]

theorem ref1_Add_spec {V : View} {x y : NumV} {z w : Cq} (hx : QAt V x z) (hy : QAt V y w) (hz : z.sz ≤ 2 ^ 40) (hw : w.sz ≤ 2 ^ 40) :
    CallV Tryz.prog n_ref1_Add #[x.val, y.val] V fun v V' => ∃ r : NumV, v = r.val ∧ QAt V' r (z + w) := by
  have zA := Cq.wA hz; have zB := Cq.wB hz; have zD := Cq.wD hz
  have wA := Cq.wA hw; have wB := Cq.wB hw; have wD := Cq.wD hw
  have zD' : wn (z.D : Int).natAbs ≤ 2 ^ 35 := zD
  have wD' : wn (w.D : Int).natAbs ≤ 2 ^ 35 := wD
  have s1 := wn_muli zA wD'; have s2 := wn_muli wA zD'; have s3 := wn_muli zB wD'; have s4 := wn_muli wB zD'
  have s5 := wn_addi s1 s2; have s6 := wn_addi s3 s4
  have s7 := wn_mul_le z.D w.D
  refine ref1_Add_vc x y V _ ((ref1_IntMul_spec hx.re (IntAt.ofNat hy.under) (by omega) (by omega)).mono fun v V1 l1 ⟨r1, hv, h1⟩ => ⟨r1, hv, ?_⟩)
  replace hx := hx.le l1; replace hy := hy.le l1
  refine (ref1_IntMul_spec hy.re (IntAt.ofNat hx.under) (by omega) (by omega)).mono fun v V2 l2 ⟨r2, hv, h2⟩ => ⟨r2, hv, ?_⟩
  replace hx := hx.le l2; replace hy := hy.le l2; replace h1 := h1.le l2
  refine (ref1_IntAdd_spec h1 h2 (by omega) (by omega)).mono fun v V3 l3 ⟨r3, hv, h3⟩ => ⟨r3, hv, ?_⟩
  replace hx := hx.le l3; replace hy := hy.le l3
  refine (ref1_IntMul_spec hx.im (IntAt.ofNat hy.under) (by omega) (by omega)).mono fun v V4 l4 ⟨r4, hv, h4⟩ => ⟨r4, hv, ?_⟩
  replace hx := hx.le l4; replace hy := hy.le l4; replace h3 := h3.le l4
  refine (ref1_IntMul_spec hy.im (IntAt.ofNat hx.under) (by omega) (by omega)).mono fun v V5 l5 ⟨r5, hv, h5⟩ => ⟨r5, hv, ?_⟩
  replace hx := hx.le l5; replace hy := hy.le l5; replace h3 := h3.le l5; replace h4 := h4.le l5
  refine (ref1_IntAdd_spec h4 h5 (by omega) (by omega)).mono fun v V6 l6 ⟨r6, hv, h6⟩ => ⟨r6, hv, ?_⟩
  replace hx := hx.le l6; replace hy := hy.le l6; replace h3 := h3.le l6
  refine (ref1_NatMul_spec hx.under hy.under (by omega) (by omega)).mono fun v V7 l7 ⟨r7, hv, h7⟩ => ⟨r7, hv, ?_⟩
  exact (ref1_Make_spec (h3.le l7) (h6.le l7) h7 (z.canon.rep.add w.canon.rep) (by omega) (by omega) (by omega)).mono fun v V10 _ ⟨r, hv, hr⟩ => ⟨r, hv, r, rfl, hr⟩

theorem ref1_Neg_spec {V : View} {x : NumV} {z : Cq} (hx : QAt V x z) : CallV Tryz.prog n_ref1_Neg #[x.val] V fun v V' => ∃ r : NumV, v = r.val ∧ QAt V' r (-z) := by
  obtain ⟨e1, e2, e3⟩ := z.neg_eqs
  refine ref1_Neg_vc x V _ ((ref1_IntNeg_spec hx.re).mono fun v V1 l1 ⟨r1, hv, h1⟩ => ⟨r1, hv, ?_⟩)
  exact (ref1_IntNeg_spec (hx.im.le l1)).mono fun v V2 l2 ⟨r2, hv, h2⟩ => ⟨r2, hv, _, rfl, by rw [e1]; exact h1.le l2, by rw [e2]; exact h2, by rw [e3]; exact hx.under.le (View.le_trans l1 l2)⟩

theorem ref1_Conj_spec {V : View} {x : NumV} {z : Cq} (hx : QAt V x z) : CallV Tryz.prog n_ref1_Conj #[x.val] V fun v V' => ∃ r : NumV, v = r.val ∧ QAt V' r z.conj := by
  obtain ⟨e1, e2, e3⟩ := z.conj_eqs
  exact ref1_Conj_vc x V _ ((ref1_IntNeg_spec hx.im).mono fun v V1 l1 ⟨r1, hv, h1⟩ => ⟨r1, hv, _, rfl, by rw [e1]; exact hx.re.le l1, by rw [e2]; exact h1, by rw [e3]; exact hx.under.le l1⟩)

theorem ref1_Sub_spec {V : View} {x y : NumV} {z w : Cq} (hx : QAt V x z) (hy : QAt V y w) (hz : z.sz ≤ 2 ^ 40) (hw : w.sz ≤ 2 ^ 40) :
    CallV Tryz.prog n_ref1_Sub #[x.val, y.val] V fun v V' => ∃ r : NumV, v = r.val ∧ QAt V' r (z - w) := by
  refine ref1_Sub_vc x y V _ ((ref1_Neg_spec hy).mono fun v V1 l1 ⟨r1, hv, h1⟩ => ⟨r1, hv, ?_⟩)
  rw [Cq.sub_eq]
  exact (ref1_Add_spec (hx.le l1) h1 hz (by rw [Cq.sz_neg]; exact hw)).mono fun v V2 _ ⟨r, hv, hr⟩ => ⟨r, hv, r, rfl, hr⟩

theorem ref1_Mul_spec {V : View} {x y : NumV} {z w : Cq} (hx : QAt V x z) (hy : QAt V y w) (hz : z.sz ≤ 2 ^ 40) (hw : w.sz ≤ 2 ^ 40) :
    CallV Tryz.prog n_ref1_Mul #[x.val, y.val] V fun v V' => ∃ r : NumV, v = r.val ∧ QAt V' r (z * w) := by
  have zA := Cq.wA hz; have zB := Cq.wB hz; have zD := Cq.wD hz
  have wA := Cq.wA hw; have wB := Cq.wB hw; have wD := Cq.wD hw
  have s1 := wn_muli zA wA; have s2 := wn_muli zB wB; have s2' := wn_negi s2; have s3 := wn_muli zA wB; have s4 := wn_muli zB wA
  have s5 := wn_addi s1 s2'; have s6 := wn_addi s3 s4
  rw [← Int.sub_eq_add_neg] at s5
  have s7 := wn_mul_le z.D w.D
  refine ref1_Mul_vc x y V _ ((ref1_IntMul_spec hx.re hy.re (by omega) (by omega)).mono fun v V1 l1 ⟨r1, hv, h1⟩ => ⟨r1, hv, ?_⟩)
  replace hx := hx.le l1; replace hy := hy.le l1
  refine (ref1_IntMul_spec hx.im hy.im (by omega) (by omega)).mono fun v V2 l2 ⟨r2, hv, h2⟩ => ⟨r2, hv, ?_⟩
  replace hx := hx.le l2; replace hy := hy.le l2; replace h1 := h1.le l2
  refine (ref1_IntSub_spec h1 h2 (by omega) (by omega)).mono fun v V4 l4 ⟨r4, hv, h4⟩ => ⟨r4, hv, ?_⟩
  replace hx := hx.le l4; replace hy := hy.le l4
  refine (ref1_IntMul_spec hx.re hy.im (by omega) (by omega)).mono fun v V5 l5 ⟨r5, hv, h5⟩ => ⟨r5, hv, ?_⟩
  replace hx := hx.le l5; replace hy := hy.le l5; replace h4 := h4.le l5
  refine (ref1_IntMul_spec hx.im hy.re (by omega) (by omega)).mono fun v V6 l6 ⟨r6, hv, h6⟩ => ⟨r6, hv, ?_⟩
  replace hx := hx.le l6; replace hy := hy.le l6; replace h4 := h4.le l6; replace h5 := h5.le l6
  refine (ref1_IntAdd_spec h5 h6 (by omega) (by omega)).mono fun v V7 l7 ⟨r7, hv, h7⟩ => ⟨r7, hv, ?_⟩
  replace hx := hx.le l7; replace hy := hy.le l7; replace h4 := h4.le l7
  refine (ref1_NatMul_spec hx.under hy.under (by omega) (by omega)).mono fun v V10 l10 ⟨r10, hv, h10⟩ => ⟨r10, hv, ?_⟩
  exact (ref1_Make_spec (h4.le l10) (h7.le l10) h10 (z.canon.rep.mul w.canon.rep) (by omega) (by omega) (by omega)).mono fun v V11 _ ⟨r, hv, hr⟩ => ⟨r, hv, r, rfl, hr⟩

theorem intAt_lenpos {V : View} {x : WhV} {a : Int} (h : IntAt V x a) : x.mag.len = 0 ↔ a = 0 := by
  have := h.2.len_zero
  rw [this]; omega
end Go.Proofs.YtcapadojlaojkaaGreat

namespace Go.Proofs.YtcapadojlaojkaaGreat
open Go Go.Vc Go.Proofs

theorem slices_Reverse_spec {V : View} {n c : Nat} {w : List Value} {f : Nat → Int} (h1 : 1 ≤ n) (hn : n ≤ w.length) (hw : n ≤ 2 ^ 60) (hf : ∀ p, p < n → w[p]? = some (.int .u8 (f p))) :
    CallD Tryz.prog n_slices_Reverse___byte_byte_ (fun b => (Value.slice (some ⟨b, 0, none⟩) n c :: [] : List Value)) T_u8 w V fun v l _ => v = .tuple #[] ∧ l.length = w.length ∧ l.take n = (w.take n).reverse := by
  refine slices_Reverse___byte_byte__vc 0 n c w V _ (fun _ x _ => ∃ i j : Nat, x.t2 = (i : Int) ∧ x.t3 = (j : Int) ∧ j + i = n - 1 ∧ (i ≤ j + 1) ∧ x.o0 = revI w n i) (fun _ x _ => (x.t3 - x.t2 + 2).toNat) ⟨⟨0, n - 1, rfl, ?_, by omega, by omega, (revI_zero w n).symm⟩, ?_⟩
  · show IntKind.i64.wrap ((n : Int) - 1) = _
    rw [i64w (by omega) (by omega)]; omega
  rintro ⟨t, u, o⟩ V1 l1 ⟨i, j, rfl, rfl, hij, hi, rfl⟩
  have gd : ∀ p, p < n → w.getD p undef = .int .u8 (f p) := fun p hp => by simp [List.getD, hf p hp]
  dsimp only
  refine ⟨fun hlt => ?_, fun hge => ?_⟩
  · simp only [decide_eq_true_eq] at hlt
    have hij' : i < j := by omega
    rw [i64w (n := (i : Int) + 1) (by omega) (by omega), i64w (n := (j : Int) - 1) (by omega) (by omega)]
    simp only [Int.toNat_natCast, Nat.mul_one, Nat.zero_add]
    refine ⟨⟨by omega, by omega⟩, f j, ?_, ⟨by omega, by omega⟩, f i, ?_, ⟨by omega, by omega⟩, by rw [revI_length]; omega, ⟨by omega, by omega⟩, by rw [List.length_set, revI_length]; omega, ⟨i + 1, j - 1, by omega, by omega, by omega, by omega, ?_⟩, by omega⟩
    · rw [revI_mid (by omega) (by omega) (by omega), gd j (by omega)]
    · rw [revI_mid (by omega) (by omega) (by omega), gd i (by omega)]
    · have := revI_step (o := w) hn hij hij'
      rw [gd i (by omega), gd j (by omega)] at this
      exact this
  · simp only [decide_eq_false_iff_not] at hge
    exact ⟨rfl, revI_length _ _ _, revI_end hn (by omega)⟩

theorem digC_get {l : List Nat} {p : Nat} (h : p < l.length) : (digC l)[p]? = some (.int .u8 ((48 + l.getD p 0 : Nat) : Int)) := by simp [digC, h]
theorem u8dig {r : Nat} : IntKind.u8.wrap (IntKind.u32.wrap (48 + (Int.tmod (r : Int) 10))) = ((48 + r % 10 : Nat) : Int) := by
  rw [show Int.tmod (r : Int) 10 = ((r % 10 : Nat) : Int) from (Int.ofNat_tmod r 10).symm, u32w (by omega) (by omega), IntWalk.u8_in _ ⟨by omega, by omega⟩]; omega
theorem u32q {r : Nat} (h : r < 4294967296) : IntKind.u32.wrap (Int.tdiv (r : Int) 10) = ((r / 10 : Nat) : Int) := by
  rw [show Int.tdiv (r : Int) 10 = ((r / 10 : Nat) : Int) from (Int.ofNat_tdiv r 10).symm, u32w (by omega) (by omega)]
theorem oneC (n : Int) : ∀ v ∈ [Value.int .u8 n], Value.oneCell' v = true := by intro v hv; simp at hv; subst hv; rfl

theorem nat_digits_spec {V : View} {s : Sl} {N : Nat} (h : NatAt V s N) (hb : bl N ≤ 2 ^ 42) :
    CallV Tryz.prog n_nat_digits #[s.v] V fun v _ => v = .string (decS N) := by
  have hz := h.len_zero
  have hlow := low_length N
  refine nat_digits_vc s V _
    (fun _ x V' => ∃ (X : Nat) (dl : List Nat), NatAt V' x.t0 X ∧ X ≤ N ∧ LstOk 1 x.t3l x.t3c x.o3 (digC dl) ∧ x.t3l = dl.length ∧ low N = dl ++ low X) (fun _ x V' => natVal V' x.t0)
    (fun c x V' => ∃ (q r k : Nat) (dl : List Nat), NatAt V' c.t0 q ∧ q ≤ N ∧ x.t4 = (r : Int) ∧ x.t5 = (k : Int) ∧ k ≤ 9 ∧ r < 10 ^ (9 - k) ∧ LstOk 1 x.t3l x.t3c x.o3 (digC dl) ∧ x.t3l = dl.length ∧ low N = dl ++ low (q * 10 ^ (9 - k) + r)) (fun _ x _ => (9 - x.t5).toNat)
    ⟨fun h0 => ?_, fun h0 => ⟨⟨N, [], h, Nat.le_refl _, LstOk.nil, rfl, rfl⟩, ?_⟩⟩
  · have : s.len = 0 := by have : (s.len : Int) = 0 := (by simpa using h0); omega
    rw [hz.1 this, decS_zero]
  have hN0 : N ≠ 0 := by
    intro e; rw [← hz] at e; rw [e] at h0; simp at h0
  rintro ⟨t0, n, c, o⟩ V1 l1 ⟨X, dl, hX, hXN, hlo, hn, hval⟩
  dsimp only at hX hlo hn ⊢
  have hXz := hX.len_zero
  refine ⟨fun hp => ?_, fun hp => ?_⟩
  · simp only [gt_iff_lt, decide_eq_true_eq] at hp
    have hX0 : X ≠ 0 := fun e => by rw [← hXz] at e; omega
    have hbX : bl X ≤ 2 ^ 42 := Nat.le_trans (bl_mono hXN) hb
    refine (nat_short_spec (d := 1000000000) hX (wn_bl (by omega)) (by omega) (by omega)).mono fun v V2 l2 ⟨r1, hv, h1⟩ => ⟨r1, _, hv, ⟨X / 1000000000, X % 1000000000, 0, dl, h1, Nat.le_trans (Nat.div_le_self _ _) hXN, rfl, rfl, by omega, ?_, hlo, hn, ?_⟩, ?_⟩
    · exact Nat.mod_lt _ (by omega)
    · have : X / 1000000000 * 10 ^ (9 - 0) + X % 1000000000 = X := by
        rw [show (10 : Nat) ^ (9 - 0) = 1000000000 by decide]; omega
      rw [this]; exact hval
    rintro ⟨n3, c3, r3, k3, o3⟩ V3 l3 ⟨q, r, k, dl3, hq, hqN, rfl, rfl, hk, hr, hlo3, hn3, hval3⟩
    dsimp only at hq hlo3 hn3 ⊢
    have hqe := hq.inj (h1.le l3)
    have hlt9 : r < 1000000000 := Nat.lt_of_lt_of_le hr (by
      have : (10 : Nat) ^ (9 - k) ≤ 10 ^ 9 := Nat.pow_le_pow_right (by omega) (by omega)
      exact Nat.le_trans this (by decide))
    have hl3 : dl3.length ≤ 2 ^ 42 := by
      have := congrArg List.length hval3
      rw [List.length_append] at this; omega
    have hqz := hq.len_zero
    -- one more digit
    have step : (q ≠ 0 ∨ r ≠ 0) → k < 9 → ∀ (b1 : Nat) (V4 : View), V3.le V4 → View.Fin V4 → V4 b1 = some #[.int .u8 (IntKind.u8.wrap (IntKind.u32.wrap (48 + (Int.tmod (r : Int) 10))))] →
        ∃ (l1 : List Value) (l2 : List Value), LstOk 1 n3 c3 o3 l1 ∧ View.has V4 (some (Addr.mk b1 0 none)) l2 ∧ List.length l2 = 1 * 1 ∧ (∀ v ∈ l2, Value.oneCell' v = true) ∧ n3 + 1 ≤ maxLen ∧ (n3 + 1) * 1 ≤ 140737488355328 ∧
        ∀ (c1 : Nat) (l3 : List Value), LstOk 1 (n3 + 1) c1 l3 (l1 ++ l2) →
        (∃ (q' r' k' : Nat) (dl : List Nat), NatAt V4 r1 q' ∧ q' ≤ N ∧ (IntKind.u32.wrap (Int.tdiv (r : Int) 10)) = (r' : Int) ∧ (IntKind.i64.wrap ((k : Int) + 1)) = (k' : Int) ∧ k' ≤ 9 ∧ r' < 10 ^ (9 - k') ∧ LstOk 1 (n3 + 1) c1 l3 (digC dl) ∧ n3 + 1 = dl.length ∧ low N = dl ++ low (q' * 10 ^ (9 - k') + r')) ∧ (9 - (IntKind.i64.wrap ((k : Int) + 1))).toNat < (9 - (k : Int)).toNat := by
      intro hne hk9 b1 V4 l4 _ hb1
      rw [u8dig] at hb1
      have hrr : r / 10 < 10 ^ (9 - (k + 1)) := by
        have : 10 ^ (9 - k) = 10 ^ (9 - (k + 1)) * 10 := by rw [← Nat.pow_succ]; congr 1; omega
        omega
      have hst := low_step (q := q) (r := r) (k := 9 - (k + 1)) hne
      rw [show 9 - (k + 1) + 1 = 9 - k by omega] at hst
      refine ⟨digC dl3, [.int .u8 ((48 + r % 10 : Nat) : Int)], hlo3, has_block hb1, rfl, oneC _, Nat.le_trans (show n3 + 1 ≤ 2 ^ 43 by omega) (by decide), by omega, fun c1 l3' hl3' => ⟨⟨q, r / 10, k + 1, dl3 ++ [r % 10], hq.le l4, hqN, u32q (by omega), by rw [i64w (by omega) (by omega)]; omega, hk9, hrr, ?_, by simp [hn3], ?_⟩, by rw [i64w (by omega) (by omega)]; omega⟩⟩
      · rw [← digC_append]; exact hl3'
      · rw [hval3, hst]; simp
    -- the end of the block
    have stop : (k = 9 ∨ q = 0 ∧ r = 0) → (∃ (X : Nat) (dl : List Nat), NatAt V3 r1 X ∧ X ≤ N ∧ LstOk 1 n3 c3 o3 (digC dl) ∧ n3 = dl.length ∧ low N = dl ++ low X) ∧ natVal V3 r1 < natVal V1 t0 := by
      intro hs
      refine ⟨⟨q, dl3, hq, hqN, hlo3, hn3, ?_⟩, ?_⟩
      · rcases hs with rfl | ⟨rfl, rfl⟩
        · have : r = 0 := by simp at hr; omega
          subst this
          simpa using hval3
        · simpa using hval3
      · rw [natVal_eq hq, natVal_eq hX, hqe]
        omega
    refine ⟨fun hk9 => ⟨fun hq1 => ⟨fun _ => step (.inl ?_) (by have : (k : Int) < 9 := (by simpa using hk9); omega), fun h => absurd h (by simp)⟩, fun hq1 => ⟨fun hr1 => step (.inr ?_) (by have : (k : Int) < 9 := (by simpa using hk9); omega), fun hr1 => stop (.inr ⟨?_, ?_⟩)⟩⟩, fun hk9 => ⟨fun h => absurd h (by simp), fun _ => stop (.inl ?_)⟩⟩
    · simp only [gt_iff_lt, decide_eq_true_eq] at hq1
      intro e; rw [← hqz] at e; omega
    · simp only [gt_iff_lt, decide_eq_true_eq] at hr1; omega
    · simp only [gt_iff_lt, decide_eq_false_iff_not] at hq1; exact hqz.1 (by omega)
    · simp only [gt_iff_lt, decide_eq_false_iff_not] at hr1; omega
    · simp only [decide_eq_false_iff_not] at hk9; omega
  · simp only [gt_iff_lt, decide_eq_false_iff_not] at hp
    have hX0 : X = 0 := hXz.1 (by omega)
    rw [hX0, low_zero, List.append_nil] at hval
    subst hval
    have hd0 : low N ≠ [] := by rw [low_pos hN0]; simp
    have hl0 : 0 < (low N).length := List.length_pos_iff.2 hd0
    have hle := hlo.le
    have htk := hlo.take
    have hol := hlo.len
    rw [Nat.mul_one] at htk hol
    have htl : n ≤ o.length := by omega
    have g : ∀ p, p < n → o[p]? = some (.int .u8 (((48 + (low N).getD p 0 : Nat) : Nat) : Int)) := by
      intro p hp'
      rw [← List.getElem?_take_of_lt hp', htk]
      exact digC_get (by omega)
    refine ⟨⟨by intro e; rw [e] at htl; simp at htl; omega, ⟨by omega, trivial⟩, trivial⟩, ?_⟩
    refine (slices_Reverse_spec (c := c) (f := fun p => ((48 + (low N).getD p 0 : Nat) : Int)) (by omega) htl (by omega) g).mono fun v l10 V7 l7 ⟨hv, hl10, ht10⟩ => ⟨hv, fun b4 V8 l8 hb4 => ?_⟩
    refine ⟨decL N, ?_, by rw [decL_length hN0]; omega, rfl, rfl⟩
    rw [htk, digC_rev hN0] at ht10
    intro j v hj
    have hjl : j < n := by
      rcases Nat.lt_or_ge j n with h | h
      · exact h
      · rw [List.getElem?_eq_none (by simp [decL_length hN0]; omega)] at hj; simp at hj
    rw [load_block hb4]
    rw [← ht10, List.getElem?_take_of_lt hjl] at hj
    simpa using hj

/-- The real number a/d. -/
def ratQ1 (a : Int) (d : Nat) : Cq := ⟨(a : Rat) / (d : Rat), 0⟩
theorem ratQ1_rep {a : Int} {d : Nat} (h : d ≠ 0) : Rep (ratQ1 a d) a 0 d := ⟨h, rfl, by show (0 : Rat) = _; rw [Rat.div_def]; simp⟩
theorem Cq.re_eq (z : Cq) : (⟨z.re, 0⟩ : Cq) = ratQ1 z.A z.D := Cq.ext' z.canon.rep.re rfl
theorem Cq.im_eq (z : Cq) : (⟨z.im, 0⟩ : Cq) = ratQ1 z.B z.D := Cq.ext' z.canon.rep.im rfl
theorem ratQ1_eqs {a : Int} {d : Nat} (h : d ≠ 0) : (ratQ1 a d).A.natAbs = a.natAbs / Nat.gcd a.natAbs d ∧ (ratQ1 a d).D = d / Nat.gcd a.natAbs d ∧ ((ratQ1 a d).A < 0 ↔ a < 0) := by
  obtain ⟨e1, e2, e3⟩ := (ratQ1_rep (a := a) h).eqs
  have hg : gcd3 a 0 d = Nat.gcd a.natAbs d := by simp [gcd3]
  have d1 := gcd3_dvd1 a 0 d
  have k1 := natAbs_div d1
  have k2 := div_lt_zero d1 (gcd3_pos a 0 h)
  rw [e1, e3, k1, hg]
  rw [hg] at k2
  exact ⟨rfl, rfl, by simpa using k2⟩
theorem ratQ1_bl {a : Int} {d : Nat} (h : d ≠ 0) : bl (ratQ1 a d).A.natAbs ≤ bl a.natAbs ∧ bl (ratQ1 a d).D ≤ bl d := by
  obtain ⟨e1, e2, _⟩ := ratQ1_eqs (a := a) h
  rw [e1, e2]
  exact ⟨bl_mono (Nat.div_le_self _ _), bl_mono (Nat.div_le_self _ _)⟩
def ratT (a : Int) (d : Nat) : ByteArray := ratS (ratQ1 a d).A (ratQ1 a d).D

theorem num_part_spec {V : View} {x : WhV} {s : Sl} {a : Int} {d : Nat} (hx : IntAt V x a) (hs : NatAt V s d) (hd : d ≠ 0) (ha : bl a.natAbs ≤ 2 ^ 41) (hdb : bl d ≤ 2 ^ 41) :
    CallV Tryz.prog n_num_part #[x.val, s.v] V fun v _ => v = .string (ratT a d) := by
  obtain ⟨b1, b2⟩ := ratQ1_bl (a := a) hd
  have s1 := decS_size (ratQ1 a d).A.natAbs
  have s2 := decS_size (ratQ1 a d).D
  have hmax : IntKind.i64.max = 9223372036854775807 := by decide
  have z1 : (ByteArray.mk #[45]).size = 1 := rfl
  have z2 : (ByteArray.mk #[47]).size = 1 := rfl
  refine num_part_vc x s V _ ((num_over_spec hx (IntAt.zero V) hs (ratQ1_rep hd) (wn_bl (by omega)) (by rw [show Int.natAbs 0 = 0 from rfl, wn_zero]; omega) (wn_bl (by omega))).mono fun v V1 l1 ⟨r, hv, hr⟩ => ⟨r, hv, ?_⟩)
  have hu := hr.under
  have hn := hr.re.1
  have hD := (ratQ1 a d).D_pos
  refine (nat_digits_spec hr.re.2 (by omega)).mono fun v V2 l2 hv => ⟨_, hv, fun hneg => ⟨by rw [z1, hmax]; omega, fun hul => ?_, fun hul => ?_⟩, fun hneg => ⟨fun hul => ?_, fun hul => ?_⟩⟩
  · simp only [gt_iff_lt, decide_eq_true_eq] at hul
    have h1 : (ratQ1 a d).D ≠ 1 := fun e => by rw [e, if_pos rfl] at hu; have := hu.len_zero.2 rfl; omega
    rw [if_neg h1] at hu
    refine (nat_digits_spec (hu.le l2) (by omega)).mono fun v V3 l3 hv => ⟨_, hv, by rw [z2, hmax]; omega, by rw [bytes_size, bytes_size, z1, z2, hmax]; omega, ?_⟩
    unfold ratT ratS
    rw [hneg] at hn
    have hn : (ratQ1 a d).A < 0 := of_decide_eq_true hn.symm
    simp only [hn, h1, if_true, if_false]; rfl
  · simp only [gt_iff_lt, decide_eq_false_iff_not] at hul
    have h1 : (ratQ1 a d).D = 1 := by
      have := hu.len_zero.1 (by omega)
      split at this <;> omega
    unfold ratT ratS
    rw [hneg] at hn
    have hn : (ratQ1 a d).A < 0 := of_decide_eq_true hn.symm
    simp only [hn, h1, if_true]; rfl
  · simp only [gt_iff_lt, decide_eq_true_eq] at hul
    have h1 : (ratQ1 a d).D ≠ 1 := fun e => by rw [e, if_pos rfl] at hu; have := hu.len_zero.2 rfl; omega
    rw [if_neg h1] at hu
    refine (nat_digits_spec (hu.le l2) (by omega)).mono fun v V3 l3 hv => ⟨_, hv, by rw [z2, hmax]; omega, by rw [bytes_size, z2, hmax]; omega, ?_⟩
    unfold ratT ratS
    rw [hneg] at hn
    have hn : ¬ (ratQ1 a d).A < 0 := of_decide_eq_false hn.symm
    simp only [hn, h1, if_false]; rfl
  · simp only [gt_iff_lt, decide_eq_false_iff_not] at hul
    have h1 : (ratQ1 a d).D = 1 := by
      have := hu.len_zero.1 (by omega)
      split at this <;> omega
    unfold ratT ratS
    rw [hneg] at hn
    have hn : ¬ (ratQ1 a d).A < 0 := of_decide_eq_false hn.symm
    simp only [hn, h1, if_false, if_true]

theorem cqS_eq (z : Cq) : cqS z = if z.B = 0 then ratT z.A z.D else if z.A = 0 then ratT z.B z.D ++ strI else if z.B < 0 then ratT z.A z.D ++ (ratT z.B z.D ++ strI) else ratT z.A z.D ++ (strPlus ++ (ratT z.B z.D ++ strI)) := by
  unfold cqS
  rw [Cq.re_eq, Cq.im_eq]; rfl
theorem ratT_size {a : Int} {d : Nat} (h : d ≠ 0) : (ratT a d).size ≤ bl a.natAbs + bl d + 4 := by
  have h1 := ratS_size (ratQ1 a d).A (ratQ1 a d).D
  obtain ⟨b1, b2⟩ := ratQ1_bl (a := a) h
  unfold ratT; omega
theorem lenT (n : Nat) : (((n : Int) == 0) = true ↔ n = 0) := by simp

theorem Num_Text_spec {V : View} {x : NumV} {z : Cq} (hx : NumAt V x z) (hz : z.sz ≤ 2 ^ 40) : CallV Tryz.prog n_Num_Text #[x.val] V fun v _ => v = .string (cqS z) := by
  have zA := z.szA; have zB := z.szB; have zD := z.szD
  have hD := z.D_pos
  have t1 := ratT_size (a := z.A) hD
  have t2 := ratT_size (a := z.B) hD
  have hmax : IntKind.i64.max = 9223372036854775807 := by decide
  have z1 : (ByteArray.mk #[105]).size = 1 := rfl
  have z2 : (ByteArray.mk #[43]).size = 1 := rfl
  rw [cqS_eq]
  refine Num_Text_vc x V _ ((Num_Real_spec hx).mono fun v V1 l1 hv => ⟨_, hv, fun hr => ?_, fun hr => ?_⟩)
  · have hB : z.B = 0 := by
      rw [Cq.B_zero]; simpa using hr
    refine (Num_den_spec (hx.le l1)).mono fun v V2 l2 ⟨r, hv, h2⟩ => ⟨r, hv, ?_⟩
    refine (num_part_spec (hx.re.le (View.le_trans l1 l2)) h2 hD (by omega) (by omega)).mono fun v V3 l3 hv => ⟨_, hv, ?_⟩
    rw [if_pos hB]
  · have hB : ¬ z.B = 0 := by
      rw [Cq.B_zero]; simpa using hr
    rw [if_neg hB]
    refine (Num_den_spec (hx.le l1)).mono fun v V2 l2 ⟨r, hv, h2⟩ => ⟨r, hv, ?_⟩
    refine (num_part_spec (hx.im.le (View.le_trans l1 l2)) h2 hD (by omega) (by omega)).mono fun v V3 l3 hv => ⟨_, hv, by rw [z1, hmax]; omega, fun hA => ?_, fun hA => ⟨fun hn => ⟨by rw [bytes_size, z1, z2, hmax]; omega, ?_⟩, fun hn => ?_⟩⟩
    · have hA : z.A = 0 := by
        have := (lenT _).1 hA
        have := hx.re.2.len_zero.1 this; omega
      rw [if_pos hA]; rfl
    all_goals
      have hA : ¬ z.A = 0 := by
        intro e
        have := hx.re.2.len_zero.2 (by omega)
        rw [this] at hA; simp at hA
      rw [if_neg hA]
      have hneg := hx.im.1
      refine (Num_den_spec (hx.le (View.le_trans l1 (View.le_trans l2 l3)))).mono fun v V4 l4 ⟨r4, hv, h4⟩ => ⟨r4, hv, ?_⟩
      refine (num_part_spec (hx.re.le (View.le_trans l1 (View.le_trans l2 (View.le_trans l3 l4)))) h4 hD (by omega) (by omega)).mono fun v V5 l5 hv => ⟨_, hv, by simp only [bytes_size, z1, z2]; rw [hmax]; omega, ?_⟩
    · have hn : ¬ z.B < 0 := by
        have : x.im.neg = false := by simpa using hn
        rw [this] at hneg; exact of_decide_eq_false hneg.symm
      rw [if_neg hn]; rfl
    · have hn : z.B < 0 := by
        have : x.im.neg = true := by simpa using hn
        rw [this] at hneg; exact of_decide_eq_true hneg.symm
      rw [if_pos hn]; rfl

end Go.Proofs.YtcapadojlaojkaaGreat

namespace Go.Proofs.YtcapadojlaojkaaGreat
open Go Go.Vc Go.Proofs

theorem ref1_NatText_spec {V : View} {s : Sl} {N : Nat} (h : NatAt V s N) (hb : bl N ≤ 2 ^ 42) :
    CallV Tryz.prog n_ref1_NatText #[s.v] V fun v _ => v = .string (decS N) := by
  have hz := h.len_zero
  have hlow := low_length N
  refine ref1_NatText_vc s V _
    (fun _ x V' => ∃ (X : Nat) (dl : List Nat), NatAt V' x.t0 X ∧ X ≤ N ∧ LstOk 1 x.t3l x.t3c x.o3 (digC dl) ∧ x.t3l = dl.length ∧ low N = dl ++ low X) (fun _ x V' => natVal V' x.t0)
    (fun c x V' => ∃ (q r k : Nat) (dl : List Nat), NatAt V' c.t4 q ∧ q ≤ N ∧ x.t5 = (r : Int) ∧ x.t6 = (k : Int) ∧ k ≤ 9 ∧ r < 10 ^ (9 - k) ∧ LstOk 1 x.t3l x.t3c x.o3 (digC dl) ∧ x.t3l = dl.length ∧ low N = dl ++ low (q * 10 ^ (9 - k) + r)) (fun _ x _ => (9 - x.t6).toNat)
    (fun c x _ => ∃ (i j : Nat) (w : List Value), x.t7 = (i : Int) ∧ x.t8 = (j : Int) ∧ j + i = c.t3l - 1 ∧ (i ≤ j + 1) ∧ x.o3 = revI w c.t3l i ∧ LstOk 1 c.t3l c.t3c w (digC (low N)) ∧ c.t3l = (low N).length) (fun _ x _ => (x.t8 - x.t7 + 2).toNat)
    ⟨fun h0 => ?_, fun h0 => ⟨⟨N, [], h, Nat.le_refl _, LstOk.nil, rfl, rfl⟩, ?_⟩⟩
  · have : s.len = 0 := by have : (s.len : Int) = 0 := (by simpa using h0); omega
    rw [hz.1 this, decS_zero]
  have hN0 : N ≠ 0 := by
    intro e; rw [← hz] at e; rw [e] at h0; simp at h0
  rintro ⟨t0, n, c, o⟩ V1 l1 ⟨X, dl, hX, hXN, hlo, hn, hval⟩
  dsimp only at hX hlo hn ⊢
  have hXz := hX.len_zero
  refine ⟨fun hp => ?_, fun hp => ?_⟩
  · simp only [gt_iff_lt, decide_eq_true_eq] at hp
    have hX0 : X ≠ 0 := fun e => by rw [← hXz] at e; omega
    have hbX : bl X ≤ 2 ^ 42 := Nat.le_trans (bl_mono hXN) hb
    refine (ref1_natDigit_spec (d := 1000000000) hX (wn_bl (by omega)) (by omega) (by omega)).mono fun v V2 l2 ⟨r1, hv, h1⟩ => ⟨r1, _, hv, ⟨X / 1000000000, X % 1000000000, 0, dl, h1, Nat.le_trans (Nat.div_le_self _ _) hXN, rfl, rfl, by omega, ?_, hlo, hn, ?_⟩, ?_⟩
    · exact Nat.mod_lt _ (by omega)
    · have : X / 1000000000 * 10 ^ (9 - 0) + X % 1000000000 = X := by
        rw [show (10 : Nat) ^ (9 - 0) = 1000000000 by decide]; omega
      rw [this]; exact hval
    rintro ⟨n3, c3, r3, k3, o3⟩ V3 l3 ⟨q, r, k, dl3, hq, hqN, rfl, rfl, hk, hr, hlo3, hn3, hval3⟩
    dsimp only at hq hlo3 hn3 ⊢
    have hqe := hq.inj (h1.le l3)
    have hlt9 : r < 1000000000 := Nat.lt_of_lt_of_le hr (by
      have : (10 : Nat) ^ (9 - k) ≤ 10 ^ 9 := Nat.pow_le_pow_right (by omega) (by omega)
      exact Nat.le_trans this (by decide))
    have hl3 : dl3.length ≤ 2 ^ 42 := by
      have := congrArg List.length hval3
      rw [List.length_append] at this; omega
    have hqz := hq.len_zero
    -- one more digit
    have step : (q ≠ 0 ∨ r ≠ 0) → k < 9 → ∀ (b1 : Nat) (V4 : View), V3.le V4 → View.Fin V4 → V4 b1 = some #[.int .u8 (IntKind.u8.wrap (IntKind.u32.wrap (48 + (Int.tmod (r : Int) 10))))] →
        ∃ (l1 : List Value) (l2 : List Value), LstOk 1 n3 c3 o3 l1 ∧ View.has V4 (some (Addr.mk b1 0 none)) l2 ∧ List.length l2 = 1 * 1 ∧ (∀ v ∈ l2, Value.oneCell' v = true) ∧ n3 + 1 ≤ maxLen ∧ (n3 + 1) * 1 ≤ 140737488355328 ∧
        ∀ (c1 : Nat) (l3 : List Value), LstOk 1 (n3 + 1) c1 l3 (l1 ++ l2) →
        (∃ (q' r' k' : Nat) (dl : List Nat), NatAt V4 r1 q' ∧ q' ≤ N ∧ (IntKind.u32.wrap (Int.tdiv (r : Int) 10)) = (r' : Int) ∧ (IntKind.i64.wrap ((k : Int) + 1)) = (k' : Int) ∧ k' ≤ 9 ∧ r' < 10 ^ (9 - k') ∧ LstOk 1 (n3 + 1) c1 l3 (digC dl) ∧ n3 + 1 = dl.length ∧ low N = dl ++ low (q' * 10 ^ (9 - k') + r')) ∧ (9 - (IntKind.i64.wrap ((k : Int) + 1))).toNat < (9 - (k : Int)).toNat := by
      intro hne hk9 b1 V4 l4 _ hb1
      rw [u8dig] at hb1
      have hrr : r / 10 < 10 ^ (9 - (k + 1)) := by
        have : 10 ^ (9 - k) = 10 ^ (9 - (k + 1)) * 10 := by rw [← Nat.pow_succ]; congr 1; omega
        omega
      have hst := low_step (q := q) (r := r) (k := 9 - (k + 1)) hne
      rw [show 9 - (k + 1) + 1 = 9 - k by omega] at hst
      refine ⟨digC dl3, [.int .u8 ((48 + r % 10 : Nat) : Int)], hlo3, has_block hb1, rfl, oneC _, Nat.le_trans (show n3 + 1 ≤ 2 ^ 43 by omega) (by decide), by omega, fun c1 l3' hl3' => ⟨⟨q, r / 10, k + 1, dl3 ++ [r % 10], hq.le l4, hqN, u32q (by omega), by rw [i64w (by omega) (by omega)]; omega, hk9, hrr, ?_, by simp [hn3], ?_⟩, by rw [i64w (by omega) (by omega)]; omega⟩⟩
      · rw [← digC_append]; exact hl3'
      · rw [hval3, hst]; simp
    -- the end of the block
    have stop : (k = 9 ∨ q = 0 ∧ r = 0) → (∃ (X : Nat) (dl : List Nat), NatAt V3 r1 X ∧ X ≤ N ∧ LstOk 1 n3 c3 o3 (digC dl) ∧ n3 = dl.length ∧ low N = dl ++ low X) ∧ natVal V3 r1 < natVal V1 t0 := by
      intro hs
      refine ⟨⟨q, dl3, hq, hqN, hlo3, hn3, ?_⟩, ?_⟩
      · rcases hs with rfl | ⟨rfl, rfl⟩
        · have : r = 0 := by simp at hr; omega
          subst this
          simpa using hval3
        · simpa using hval3
      · rw [natVal_eq hq, natVal_eq hX, hqe]
        omega
    refine ⟨fun hk9 => ⟨fun hr1 => ⟨fun _ => step (.inr ?_) (by have : (k : Int) < 9 := (by simpa using hk9); omega), fun h => absurd h (by simp)⟩, fun hr1 => ⟨fun hq1 => step (.inl ?_) (by have : (k : Int) < 9 := (by simpa using hk9); omega), fun hq1 => stop (.inr ⟨?_, ?_⟩)⟩⟩, fun hk9 => ⟨fun h => absurd h (by simp), fun _ => stop (.inl ?_)⟩⟩
    · simp only [gt_iff_lt, decide_eq_true_eq] at hr1; omega
    · simp only [gt_iff_lt, decide_eq_true_eq] at hq1
      intro e; rw [← hqz] at e; omega
    · simp only [gt_iff_lt, decide_eq_false_iff_not] at hq1; exact hqz.1 (by omega)
    · simp only [gt_iff_lt, decide_eq_false_iff_not] at hr1; omega
    · simp only [decide_eq_false_iff_not] at hk9; omega
  · simp only [gt_iff_lt, decide_eq_false_iff_not] at hp
    have hX0 : X = 0 := hXz.1 (by omega)
    rw [hX0, low_zero, List.append_nil] at hval
    subst hval
    have hd0 : low N ≠ [] := by rw [low_pos hN0]; simp
    have hl0 : 0 < (low N).length := List.length_pos_iff.2 hd0
    have hle := hlo.le
    have hol := hlo.len
    rw [Nat.mul_one] at hol
    refine ⟨⟨by intro e; rw [e] at hol; simp at hol; omega, ⟨by omega, trivial⟩, trivial⟩, ⟨0, n - 1, o, rfl, ?_, by omega, by omega, (revI_zero o n).symm, hlo, hn⟩, ?_⟩
    · show IntKind.i64.wrap ((n : Int) - 1) = _
      rw [i64w (by omega) (by omega)]; omega
    rintro ⟨t7, t8, o7⟩ V7 l7 ⟨i, j, w, rfl, rfl, hij, hi, rfl, hw, _⟩
    dsimp only at hij hw ⊢
    have hwt := hw.take
    have hwl := hw.len
    rw [Nat.mul_one] at hwt hwl
    have htl : n ≤ w.length := by omega
    have g : ∀ p, p < n → w[p]? = some (.int .u8 (((48 + (low N).getD p 0 : Nat) : Nat) : Int)) := by
      intro p hp'
      rw [← List.getElem?_take_of_lt hp', hwt]
      exact digC_get (by omega)
    have gd : ∀ p, p < n → w.getD p undef = .int .u8 (((48 + (low N).getD p 0 : Nat) : Nat) : Int) := fun p hp => by simp only [List.getD]; rw [g p hp]; rfl
    refine ⟨fun hlt => ?_, fun hge => ?_⟩
    · simp only [decide_eq_true_eq] at hlt
      have hij' : i < j := by omega
      rw [i64w (n := (i : Int) + 1) (by omega) (by omega), i64w (n := (j : Int) - 1) (by omega) (by omega)]
      simp only [Int.toNat_natCast, Nat.mul_one, Nat.zero_add]
      refine ⟨⟨by omega, by omega⟩, ((48 + (low N).getD j 0 : Nat) : Int), ?_, ⟨by omega, by omega⟩, ((48 + (low N).getD i 0 : Nat) : Int), ?_, ⟨by omega, by omega⟩, by rw [revI_length]; omega, ⟨by omega, by omega⟩, by rw [List.length_set, revI_length]; omega, ⟨i + 1, j - 1, w, by omega, by omega, by omega, by omega, ?_, hw, hn⟩, by omega⟩
      · rw [revI_mid (by omega) (by omega) (by omega), gd j (by omega)]
      · rw [revI_mid (by omega) (by omega) (by omega), gd i (by omega)]
      · have := revI_step (o := w) htl hij hij'
        rw [gd i (by omega), gd j (by omega)] at this
        exact this
    · simp only [decide_eq_false_iff_not] at hge
      intro b4 V8 l8 hb4
      have ht10 := revI_end (i := i) htl (by omega)
      rw [hwt, digC_rev hN0] at ht10
      refine ⟨decL N, ?_, by rw [decL_length hN0]; omega, rfl, rfl⟩
      intro j' v hj
      have hjl : j' < n := by
        rcases Nat.lt_or_ge j' n with h | h
        · exact h
        · rw [List.getElem?_eq_none (by simp [decL_length hN0]; omega)] at hj; simp at hj
      rw [load_block hb4]
      rw [← ht10, List.getElem?_take_of_lt hjl] at hj
      simpa using hj

theorem one_word {V : View} {s : Sl} {n : Nat} (h : NatAt V s n) (hl : s.len = 1) : ((dig n).getD 0 0 = 1) ↔ n = 1 := by
  have h2 := h.len
  rw [hl] at h2
  have h3 := wval_dig n
  obtain ⟨w, hw⟩ : ∃ w, dig n = [w] := List.length_eq_one_iff.1 h2.symm
  rw [hw] at h3 ⊢
  simp [wval] at h3 ⊢
  omega

theorem ref1_half_spec {V : View} {x : WhV} {s : Sl} {a : Int} {d : Nat} (hx : IntAt V x a) (hs : NatAt V s d) (hd : d ≠ 0) (ha : bl a.natAbs ≤ 2 ^ 41) (hdb : bl d ≤ 2 ^ 41) :
    CallV Tryz.prog n_ref1_half #[x.val, s.v] V fun v _ => v = .string (ratT a d) := by
  obtain ⟨b1, b2⟩ := ratQ1_bl (a := a) hd
  obtain ⟨e1, e2, e3⟩ := ratQ1_eqs (a := a) hd
  have s1 := decS_size (ratQ1 a d).A.natAbs
  have s2 := decS_size (ratQ1 a d).D
  have hmax : IntKind.i64.max = 9223372036854775807 := by decide
  have z1 : (ByteArray.mk #[45]).size = 1 := rfl
  have z2 : (ByteArray.mk #[47]).size = 1 := rfl
  have hg0 : 0 < Nat.gcd a.natAbs d := Nat.gcd_pos_of_pos_right _ (by omega)
  refine ref1_half_vc x s V _ ((ref1_NatGcd_spec hx.2 hs (wn_bl (by omega)) (wn_bl (by omega))).mono fun v V1 l1 ⟨r1, hv, h1⟩ => ⟨r1, hv, ?_⟩)
  refine (ref1_NatDiv_spec (hx.2.le l1) h1 (wn_bl (by omega)) (by omega)).mono fun v V2 l2 ⟨q1, m1, hv, h2, _⟩ => ⟨q1, m1, hv, ?_⟩
  refine (ref1_NatDiv_spec (hs.le (View.le_trans l1 l2)) (h1.le l2) (wn_bl (by omega)) (by omega)).mono fun v V3 l3 ⟨q2, m2, hv, h3, _⟩ => ⟨q2, m2, hv, ?_⟩
  rw [← e1] at h2
  rw [← e2] at h3
  refine (ref1_NatText_spec (h2.le l3) (by omega)).mono fun v V4 l4 hv => ⟨_, hv, ?_⟩
  have h3' := h3.le l4
  have hn := hx.1
  -- without a denominator, and with one
  have one : q2.len = 1 → (((0 : Int) ≤ 0 ∧ (0 : Int) < (q2.len : Nat) ∧ Option.isSome q2.a = true) ∧ View.load V4 (Option.map (fun q => Addr.add q (Int.toNat 0 * 1)) q2.a) = some (.int .u32 (((dig (ratQ1 a d).D).getD (Int.toNat 0) 0 : Nat) : Int))) := fun hl =>
    ⟨⟨by omega, by omega, h3'.isSome (by omega)⟩, h3'.get (by omega) (by omega)⟩
  have ne1 : (ratQ1 a d).D = 1 → q2.len = 1 := fun e => by rw [e] at h3'; have := h3'.len; rw [dig_one] at this; exact this
  have rest : ∀ (pre : ByteArray), pre.size ≤ 2 ^ 42 + 2 → (ratQ1 a d).D ≠ 1 → ratT a d = pre ++ (strSlash ++ decS (ratQ1 a d).D) →
      ((ByteArray.size pre + ByteArray.size (ByteArray.mk #[47]) : Nat) : Int) ≤ IntKind.i64.max ∧
      CallV Tryz.prog n_ref1_NatText #[q2.v] V4 fun v V5 => ∃ r7 : ByteArray, v = .string r7 ∧
      ((ByteArray.size (pre ++ (ByteArray.mk #[47])) + ByteArray.size r7 : Nat) : Int) ≤ IntKind.i64.max ∧
      Value.string ((pre ++ (ByteArray.mk #[47])) ++ r7) = Value.string (ratT a d) := by
    intro pre hp h1 he
    refine ⟨by rw [z2, hmax]; omega, (ref1_NatText_spec h3' (by omega)).mono fun v V5 l5 hv => ⟨_, hv, by rw [bytes_size, z2, hmax]; omega, ?_⟩⟩
    rw [he, bytes_assoc]; rfl
  have tail : ∀ (pre : ByteArray), pre.size ≤ 2 ^ 42 + 2 → ((ratQ1 a d).D = 1 → ratT a d = pre) → ((ratQ1 a d).D ≠ 1 → ratT a d = pre ++ (strSlash ++ decS (ratQ1 a d).D)) →
      ((((q2.len : Int) : Int) == 1) = true →
      ((0 : Int) ≤ 0 ∧ (0 : Int) < (q2.len : Nat) ∧ Option.isSome q2.a = true) ∧
      ∃ x1 : Int, View.load V4 (Option.map (fun q => Addr.add q (Int.toNat 0 * 1)) q2.a) = some (.int .u32 x1) ∧
      (((x1 : Int) == 1) = true → Value.string pre = Value.string (ratT a d)) ∧
      (((x1 : Int) == 1) = false →
        ((ByteArray.size pre + ByteArray.size (ByteArray.mk #[47]) : Nat) : Int) ≤ IntKind.i64.max ∧
        CallV Tryz.prog n_ref1_NatText #[q2.v] V4 fun v V5 => ∃ r7 : ByteArray, v = .string r7 ∧
        ((ByteArray.size (pre ++ (ByteArray.mk #[47])) + ByteArray.size r7 : Nat) : Int) ≤ IntKind.i64.max ∧
        Value.string ((pre ++ (ByteArray.mk #[47])) ++ r7) = Value.string (ratT a d))) ∧
      ((((q2.len : Int) : Int) == 1) = false →
      (false = true → Value.string pre = Value.string (ratT a d)) ∧
      (false = false →
        ((ByteArray.size pre + ByteArray.size (ByteArray.mk #[47]) : Nat) : Int) ≤ IntKind.i64.max ∧
        CallV Tryz.prog n_ref1_NatText #[q2.v] V4 fun v V6 => ∃ r8 : ByteArray, v = .string r8 ∧
        ((ByteArray.size (pre ++ (ByteArray.mk #[47])) + ByteArray.size r8 : Nat) : Int) ≤ IntKind.i64.max ∧
        Value.string ((pre ++ (ByteArray.mk #[47])) ++ r8) = Value.string (ratT a d))) := by
    intro pre hp he hne
    refine ⟨fun hl => ?_, fun hl => ⟨fun h => absurd h (by simp), fun _ => ?_⟩⟩
    · have hl : q2.len = 1 := by have : (q2.len : Int) = 1 := (by simpa using hl); omega
      obtain ⟨g1, g2⟩ := one hl
      have hw := one_word h3' hl
      refine ⟨g1, _, g2, fun h => ?_, fun h => ?_⟩
      · have : (((dig (ratQ1 a d).D).getD 0 0 : Nat) : Int) = 1 := of_decide_eq_true (by rw [← h]; rfl)
        rw [he (hw.1 (by omega))]
      · have : ¬ (((dig (ratQ1 a d).D).getD 0 0 : Nat) : Int) = 1 := of_decide_eq_false (by rw [← h]; rfl)
        have h1 : (ratQ1 a d).D ≠ 1 := fun e => this (by have := hw.2 e; omega)
        exact rest pre hp h1 (hne h1)
    · have h1 : (ratQ1 a d).D ≠ 1 := fun e => by rw [ne1 e] at hl; simp at hl
      exact rest pre hp h1 (hne h1)
  refine ⟨fun hneg => ⟨by rw [z1, hmax]; omega, tail _ (by rw [bytes_size, z1]; omega) (fun e => ?_) (fun e => ?_)⟩, fun hneg => tail _ (by omega) (fun e => ?_) (fun e => ?_)⟩
  all_goals
    rw [hneg] at hn
    unfold ratT ratS
  · have hn : (ratQ1 a d).A < 0 := e3.2 (of_decide_eq_true hn.symm)
    simp only [hn, e, if_true]; rfl
  · have hn : (ratQ1 a d).A < 0 := e3.2 (of_decide_eq_true hn.symm)
    simp only [hn, e, if_true, if_false]; rfl
  · have hn : ¬ (ratQ1 a d).A < 0 := fun h => (of_decide_eq_false hn.symm) (e3.1 h)
    simp only [hn, e, if_true, if_false]
  · have hn : ¬ (ratQ1 a d).A < 0 := fun h => (of_decide_eq_false hn.symm) (e3.1 h)
    simp only [hn, e, if_false]

theorem ref1_Text_spec {V : View} {x : NumV} {z : Cq} (hx : QAt V x z) (hz : z.sz ≤ 2 ^ 40) : CallV Tryz.prog n_ref1_Text #[x.val] V fun v _ => v = .string (cqS z) := by
  have zA := z.szA; have zB := z.szB; have zD := z.szD
  have hD := z.D_pos
  have t1 := ratT_size (a := z.A) hD
  have t2 := ratT_size (a := z.B) hD
  have hmax : IntKind.i64.max = 9223372036854775807 := by decide
  have z1 : (ByteArray.mk #[105]).size = 1 := rfl
  have z2 : (ByteArray.mk #[43]).size = 1 := rfl
  have hA0 := intAt_lenpos hx.re
  have hB0 := intAt_lenpos hx.im
  rw [cqS_eq]
  refine ref1_Text_vc x V _ ⟨fun hr => ?_, fun hr => ⟨fun hA => ?_, fun hA => ?_⟩⟩
  · have hB : z.B = 0 := hB0.1 ((lenT _).1 hr)
    rw [if_pos hB]
    exact (ref1_half_spec hx.re hx.under hD (by omega) (by omega)).mono fun v V3 l3 hv => ⟨_, hv, rfl⟩
  all_goals
    have hB : ¬ z.B = 0 := fun e => by rw [hB0.2 e] at hr; simp at hr
    rw [if_neg hB]
  · have hA : z.A = 0 := hA0.1 ((lenT _).1 hA)
    rw [if_pos hA]
    exact (ref1_half_spec hx.im hx.under hD (by omega) (by omega)).mono fun v V3 l3 hv => ⟨_, hv, by rw [z1, hmax]; omega, rfl⟩
  · have hA : ¬ z.A = 0 := fun e => by rw [hA0.2 e] at hA; simp at hA
    have hneg := hx.im.1
    rw [if_neg hA]
    refine ⟨fun hn => ?_, fun hn => ?_⟩
    · rw [hn] at hneg
      rw [if_pos (of_decide_eq_true hneg.symm)]
      refine (ref1_half_spec hx.re hx.under hD (by omega) (by omega)).mono fun v V3 l3 hv => ⟨_, hv, ?_⟩
      refine (ref1_half_spec (hx.im.le l3) (hx.under.le l3) hD (by omega) (by omega)).mono fun v V4 l4 hv => ⟨_, hv, by rw [hmax]; omega, by rw [bytes_size, z1, hmax]; omega, ?_⟩
      rw [bytes_assoc]; rfl
    · rw [hn] at hneg
      rw [if_neg (of_decide_eq_false hneg.symm)]
      refine (ref1_half_spec hx.re hx.under hD (by omega) (by omega)).mono fun v V3 l3 hv => ⟨_, hv, by rw [z2, hmax]; omega, ?_⟩
      refine (ref1_half_spec (hx.im.le l3) (hx.under.le l3) hD (by omega) (by omega)).mono fun v V4 l4 hv => ⟨_, hv, by rw [bytes_size, z2, hmax]; omega, by rw [bytes_size, bytes_size, z1, z2, hmax]; omega, ?_⟩
      rw [bytes_assoc, bytes_assoc]; rfl

theorem law1_Is_spec {V : View} {x y : NumV} {z : Cq} (hx : NumAt V x z) (hy : QAt V y z) (hz : z.sz ≤ 2 ^ 40) : CallV Tryz.prog n_law1_Is #[x.val, y.val] V fun v _ => v = .bool true := by
  refine law1_Is_vc x y V _ ((Num_Text_spec hx hz).mono fun v V1 l1 hv => ⟨_, hv, (ref1_Text_spec (hy.le l1) hz).mono fun v V2 l2 hv => ⟨_, hv, ?_⟩⟩)
  rw [beq_self_eq_true]

/-- The cells of a reference's number, and a slice of them. -/
def qC (V : View) (x : List Value) (z : Cq) : Prop := ∃ n : NumV, x = n.val.cells.toList ∧ QAt V n z
theorem qC.le {V V' : View} (hle : V.le V') (x : List Value) (z : Cq) (h : qC V x z) : qC V' x z := by
  obtain ⟨n, e, hn⟩ := h; exact ⟨n, e, hn.le hle⟩
def QsAt (V : View) (s : Sl) (zs : List Cq) : Prop := ListAt 5 qC V s zs
def QsIn (V : View) (o : List Value) (zs : List Cq) : Prop := Cells 5 qC V o zs
theorem QsAt.le {V V' : View} (hle : V.le V') {s : Sl} {zs : List Cq} (h : QsAt V s zs) : QsAt V' s zs := ListAt.le (qC.le hle) hle h
theorem QsIn.le {V V' : View} (hle : V.le V') {o : List Value} {zs : List Cq} (h : QsIn V o zs) : QsIn V' o zs := Cells.imp (qC.le hle) h
theorem QsAt.get {V : View} {s : Sl} {zs : List Cq} (h : QsAt V s zs) {t : Int} (h0 : 0 ≤ t) (h1 : t.toNat < zs.length) :
    ((0 : Int) ≤ t ∧ t < (s.len : Nat) ∧ Option.isSome s.a = true) ∧
    ∃ x : NumV, V.has (Option.map (fun q => Addr.add q (Int.toNat t * 5)) s.a) x.val.cells.toList ∧ Option.isSome (Option.map (fun q => Addr.add q (Int.toNat t * 5)) s.a) = true ∧ QAt V x (nth zs t.toNat) := by
  obtain ⟨hb, x, ⟨n, e, hn⟩, _, h1, h2⟩ := ListAt.get h h0 (nth_get h1)
  exact ⟨hb, n, e ▸ h1, h2, hn⟩
theorem QsIn.set {V : View} {o : List Value} {zs : List Cq} (h : QsIn V o zs) {i : Nat} (hi : i < zs.length) {r : NumV} {z : Cq} (hr : QAt V r z) :
    QsIn V (setL o (0 + i * 5) [.bool r.re.neg, r.re.mag.v, .bool r.im.neg, r.im.mag.v, r.under.v]) (zs.set i z) := Cells.set0 h hi rfl ⟨r, rfl, hr⟩
theorem QsIn.push {V : View} {o : List Value} {zs : List Cq} (h : QsIn V o zs) {r : NumV} {z : Cq} (hr : QAt V r z) :
    QsIn V (o ++ [.bool r.re.neg, r.re.mag.v, .bool r.im.neg, r.im.mag.v, r.under.v]) (zs ++ [z]) := Cells.append h (Cells.one rfl ⟨r, rfl, hr⟩)

theorem law1_AreAll_spec {V : View} {p q : Sl} {zs : List Cq} (hp : NumsAt V p zs) (hq : QsAt V q zs) (hl : zs.length ≤ 2 ^ 40) (hz : ∀ i, i < zs.length → (nth zs i).sz ≤ 2 ^ 40) :
    CallV Tryz.prog n_law1_AreAll #[p.v, q.v] V fun v _ => v = .bool true := by
  have hpl := hp.len
  have hql := hq.len
  refine law1_AreAll_vc p q V _ (fun _ x _ => ∃ i : Nat, x.t14 = (i : Int) ∧ i ≤ zs.length) (fun _ x _ => (zs.length - x.t14).toNat) ⟨fun h => ?_, fun _ => ⟨⟨0, rfl, by omega⟩, ?_⟩⟩
  · rw [hpl, hql] at h; simp at h
  rintro ⟨t⟩ V1 l1 ⟨i, rfl, hi⟩
  dsimp only
  refine ⟨fun hlt => ?_, fun _ => rfl⟩
  simp only [decide_eq_true_eq] at hlt
  have hi' : (i : Int).toNat < zs.length := by omega
  obtain ⟨hb1, x, hx, hs, hnx⟩ := (hp.le l1).get (by omega) hi'
  obtain ⟨hb2, y, hy, hs2, hny⟩ := (hq.le l1).get (by omega) hi'
  refine ⟨hb1, x, hx, hs, hb2, y, hy, hs2, (law1_Is_spec hnx hny (hz _ hi')).mono fun v V2 l2 hv => ⟨_, hv, fun h => absurd h (by simp), fun _ => ?_⟩⟩
  rw [i64w (by omega) (by omega)]
  exact ⟨⟨i + 1, by omega, by omega⟩, by omega⟩

theorem answers_spec {V : View} {p q : Sl} {e : Int} {zs : List Cq} (hp : NumsAt V p zs) (hq : QsAt V q zs) (hl : zs.length ≤ 2 ^ 40) (hz : ∀ i, i < zs.length → (nth zs i).sz ≤ 2 ^ 40) :
    CallV Tryz.prog n_waveportlaw07_answers #[p.v, .int .i64 e, q.v, .int .i64 e] V fun v _ => v = .bool true :=
  waveportlaw07_answers_vc p e q e V _ ⟨fun _ => (law1_AreAll_spec hp hq hl hz).mono fun v V1 _ hv => ⟨_, hv, rfl⟩, fun h => absurd h (by simp)⟩

end Go.Proofs.YtcapadojlaojkaaGreat

namespace Go.Proofs.YtcapadojlaojkaaGreat
open Go Go.Vc Go.Proofs

theorem QsAt.of_made {V : View} {b n : Nat} {o : List Value} {zs : List Cq} (hb : V b = some o.toArray) (h : QsIn V o zs) (hn : n = zs.length) : QsAt V ⟨some ⟨b, 0, none⟩, n, n⟩ zs := ListAt.of_made hb h hn
theorem q_len5 (r : NumV) : [Value.bool r.re.neg, r.re.mag.v, .bool r.im.neg, r.im.mag.v, r.under.v].length = 5 := rfl

theorem ref1_Of_spec {V : View} {r : RatV} (h : ratI r) : CallV Tryz.prog n_ref1_Of #[r.val] V fun v V' => ∃ x : NumV, v = x.val ∧ QAt V' x (ratQ r) := by
  obtain ⟨⟨a1, a2⟩, ⟨b1, b2⟩, ⟨c1, c2⟩⟩ := h
  refine ref1_Of_vc r V _ ⟨fun hd => ?_, fun hd => ?_⟩
  · have hd : r.den = 0 := by simpa using hd
    refine (ref1_New_spec a1 a2 b1 b2 (by omega) (by omega) (by omega)).mono fun v V1 _ ⟨x, hv, hx⟩ => ⟨x, 0, hv, x, rfl, ?_⟩
    have e : ratQ r = ⟨((r.re : Int) : Rat) / ((1 : Int) : Rat), ((r.im : Int) : Rat) / ((1 : Int) : Rat)⟩ := by
      unfold ratQ; rw [if_pos hd]
      exact Cq.ext' (by simp only []; grind) (by simp only []; grind)
    rw [e]; exact hx
  · have hd : r.den ≠ 0 := by simpa using hd
    refine (ref1_New_spec a1 a2 b1 b2 c1 c2 hd).mono fun v V1 _ ⟨x, hv, hx⟩ => ⟨x, 0, hv, x, rfl, ?_⟩
    have e : ratQ r = ⟨((r.re : Int) : Rat) / ((r.den : Int) : Rat), ((r.im : Int) : Rat) / ((r.den : Int) : Rat)⟩ := by
      unfold ratQ; rw [if_neg hd]
    rw [e]; exact hx

theorem refList_spec {V : View} {s : Sl} {rs : List RatV} (h : RatsAt V s rs) (hi : ∀ r ∈ rs, ratI r) (hn : rs.length ≤ 2 ^ 32) :
    CallV Tryz.prog n_waveportlaw07_refList #[s.v] V fun v V' => ∃ r : Sl, v = r.v ∧ QsAt V' r (rs.map ratQ) := by
  have hl := h.len
  let F : Nat → Cq := fun k => nth (rs.map ratQ) k
  refine waveportlaw07_refList_vc s V _ (fun _ x V' => ∃ k : Nat, x.t11 = (k : Int) ∧ k ≤ rs.length ∧ OptIn qC V' x.o8 rs.length (fun p => if p < k then some (F p) else none)) (fun _ x _ => (rs.length - x.t11).toNat) ?_
  rw [hl, Int.toNat_natCast]
  refine ⟨⟨by omega, by omega, by omega, by omega⟩, ⟨0, rfl, by omega, (OptIn.zeros qC V _).congr fun p _ => by simp⟩, ?_⟩
  rintro ⟨t, o⟩ V1 l1 ⟨k, rfl, hk, ho⟩
  dsimp only at ho ⊢
  refine ⟨fun hlt => ?_, fun hge b V3 l3 hb => ?_⟩
  · simp only [decide_eq_true_eq] at hlt
    have hk' : k < rs.length := by omega
    obtain ⟨hb, x, hx, _, hh, hs⟩ := ListAt.get (h.le l1) (t := (k : Int)) (by omega) (z := rs[k]) (by simp [hk'])
    rw [hl] at hb
    refine ⟨hb, rs[k], hx ▸ hh, hs, (ref1_Of_spec (hi _ (List.getElem_mem _))).mono fun v V2 l2 ⟨r, hv, hr⟩ => ⟨r, hv, ⟨by omega, by omega⟩, ?_⟩⟩
    simp only [Int.toNat_natCast]
    rw [i64w (by omega) (by omega)]
    have ho2 := ho.le (qC.le l2)
    refine ⟨ho2.room hk', ⟨k + 1, by omega, by omega, (ho2.set hk' (q_len5 r) (z := F k) ?_).congr fun p _ => ?_⟩, by omega⟩
    · have e : F k = ratQ rs[k] := by simp [F, nth, List.getD, hk']
      rw [e]; exact ⟨r, rfl, hr⟩
    · by_cases c : p = k
      · subst c; simp
      · rw [if_neg c]
        by_cases c2 : p < k
        · rw [if_pos c2, if_pos (by omega)]
        · rw [if_neg c2, if_neg (by omega)]
  · simp only [decide_eq_false_iff_not] at hge
    have hk' : k = rs.length := by omega
    subst hk'
    have ha := (ho.le (qC.le l3)).all (F := F) fun p hp => by rw [if_pos hp]
    have e : (List.range rs.length).map F = rs.map ratQ := by
      have := list_of_nth (rs.map ratQ)
      rw [List.length_map] at this; exact this
    rw [e] at ha
    exact ⟨_, rfl, QsAt.of_made hb ha (by simp)⟩

theorem Length_spec {V : View} (n : Int) : CallV Tryz.prog n_waveportref07_Length #[.int .i64 n] V fun v _ => v = .bool (lenB n.toNat) := by
  refine waveportref07_Length_vc n V _ (fun _ x _ => ∃ j : Nat, x.t3 = ((2 ^ j : Nat) : Int) ∧ j ≤ 7 ∧ ∀ i, i < j → n ≠ ((2 ^ i : Nat) : Int)) (fun _ x _ => (128 - x.t3).toNat) ⟨⟨0, rfl, by omega, fun i hi => by omega⟩, ?_⟩
  rintro ⟨t⟩ V1 l1 ⟨j, rfl, hj, hne⟩
  dsimp only
  have hp : 2 ^ j ≤ 2 ^ 7 := Nat.pow_le_pow_right (by omega) hj
  have hp1 : 1 ≤ 2 ^ j := Nat.pow_pos (by omega)
  refine ⟨fun hle => ⟨fun he => ?_, fun he => ?_⟩, fun hgt => ?_⟩
  · simp only [decide_eq_true_eq] at hle
    have he : n = ((2 ^ j : Nat) : Int) := by simpa using he
    rw [he, Int.toNat_natCast]
    have hj6 : j ≤ 6 := by
      rcases Nat.lt_or_ge j 7 with h | h
      · omega
      · have : j = 7 := by omega
        subst this
        exfalso; revert hle; decide
    rw [lenB_pow j (by simp; omega)]
  · have he : n ≠ ((2 ^ j : Nat) : Int) := by simpa using he
    have e2 : ((2 ^ j : Nat) : Int) * 2 = ((2 ^ (j + 1) : Nat) : Int) := by rw [Nat.pow_succ]; omega
    simp only [decide_eq_true_eq] at hle
    rw [e2, i64w (by omega) (by rw [Nat.pow_succ]; omega)]
    have hj6 : j ≤ 6 := by
      rcases Nat.lt_or_ge j 7 with h | h
      · omega
      · have : j = 7 := by omega
        subst this
        exfalso; revert hle; decide
    refine ⟨⟨j + 1, rfl, by omega, fun i hi => ?_⟩, by rw [Nat.pow_succ]; omega⟩
    rcases Nat.lt_or_ge i j with h | h
    · exact hne i h
    · have : i = j := by omega
      subst this; exact he
  · simp only [decide_eq_false_iff_not] at hgt
    have hj7 : j = 7 := by
      rcases Nat.lt_or_ge j 7 with h | h
      · have : 2 ^ j ≤ 2 ^ 6 := Nat.pow_le_pow_right (by omega) (by omega)
        omega
      · omega
    subst hj7
    have : lenB n.toNat = false := by
      cases hb : lenB n.toNat with
      | false => rfl
      | true =>
        exfalso
        obtain ⟨h1, h2⟩ := lenB_le hb
        have hmem : n.toNat ∈ [1, 2, 4, 8, 16, 32, 64] := by
          unfold lenB at hb; exact List.contains_iff_mem.1 hb
        have hn : n = (n.toNat : Int) := by omega
        simp only [List.mem_cons, List.not_mem_nil, or_false] at hmem
        rcases hmem with h | h | h | h | h | h | h
        · exact hne 0 (by omega) (by rw [hn, h])
        · exact hne 1 (by omega) (by rw [hn, h])
        · exact hne 2 (by omega) (by rw [hn, h])
        · exact hne 3 (by omega) (by rw [hn, h])
        · exact hne 4 (by omega) (by rw [hn, h])
        · exact hne 5 (by omega) (by rw [hn, h])
        · exact hne 6 (by omega) (by rw [hn, h])
    rw [this]

end Go.Proofs.YtcapadojlaojkaaGreat

namespace Go.Proofs.YtcapadojlaojkaaGreat
open Go Go.Vc Go.Proofs

theorem over_spec {V : View} (p q : Sl) : CallV Tryz.prog n_waveportref07_over #[p.v, q.v] V fun v _ => v = .bool (lenB q.len && decide (p.len = q.len)) := by
  refine waveportref07_over_vc p q V _ ((Length_spec _).mono fun v V1 _ hv => ⟨_, hv, fun h => ?_, fun h => ?_⟩)
  · rw [Int.toNat_natCast] at h
    rw [h, Bool.true_and]
    congr 1
    by_cases c : p.len = q.len
    · rw [decide_eq_true c, c]; simp
    · rw [decide_eq_false c]
      have : ¬ ((p.len : Int) = q.len) := by omega
      simpa using this
  · rw [Int.toNat_natCast] at h
    rw [h, Bool.false_and]

theorem refConjugates_spec {V : View} {s : Sl} {zs : List Cq} (h : QsAt V s zs) (hn : zs.length ≤ 2 ^ 32) :
    CallV Tryz.prog n_waveportref07_conjugates #[s.v] V fun v V' => ∃ r : Sl, v = r.v ∧ QsAt V' r (conjF zs) := by
  have hl := h.len
  refine waveportref07_conjugates_vc s V _ (fun _ x V' => ∃ k : Nat, x.t4 = (k : Int) ∧ k ≤ zs.length ∧ OptIn qC V' x.o7 zs.length (seqF (fun i => (nth zs i).conj) k)) (fun _ x _ => (zs.length - x.t4).toNat) ?_
  rw [hl, Int.toNat_natCast]
  refine ⟨⟨by omega, by omega, by omega, by omega⟩, ⟨0, rfl, by omega, OptIn.start qC V _ _⟩, ?_⟩
  rintro ⟨t, o⟩ V1 l1 ⟨k, rfl, hk, ho⟩
  dsimp only at ho ⊢
  refine ⟨fun hlt => ?_, fun hge b V3 l3 hb => ?_⟩
  · simp only [decide_eq_true_eq] at hlt
    have hk' : k < zs.length := by omega
    obtain ⟨hb, x, hx, hs, hnx⟩ := (h.le l1).get (t := (k : Int)) (by omega) (by rw [Int.toNat_natCast]; exact hk')
    rw [hl] at hb
    rw [Int.toNat_natCast] at hnx
    refine ⟨hb, x, hx, hs, (ref1_Conj_spec hnx).mono fun v V2 l2 ⟨r, hv, hr⟩ => ⟨r, hv, ⟨by omega, by omega⟩, ?_⟩⟩
    rw [Int.toNat_natCast, i64w (by omega) (by omega)]
    have ho2 := ho.le (qC.le l2)
    exact ⟨ho2.room hk', ⟨k + 1, by omega, by omega, ho2.next hk' (q_len5 r) ⟨r, rfl, hr⟩⟩, by omega⟩
  · simp only [decide_eq_false_iff_not] at hge
    have hk' : k = zs.length := by omega
    subst hk'
    exact ⟨_, rfl, QsAt.of_made (zs := conjF zs) hb ((ho.le (qC.le l3)).all fun p hp => seqF_all hp) (by simp [conjF])⟩

theorem refDivided_spec {V : View} {s : Sl} {zs : List Cq} (h : QsAt V s zs) (h1 : 1 ≤ zs.length) (hn : zs.length ≤ 64) (hS : ∀ i, i < zs.length → (nth zs i).sz ≤ 2 ^ 39) :
    CallV Tryz.prog n_waveportref07_divided #[s.v] V fun v V' => ∃ r : Sl, v = r.v ∧ QsAt V' r (sharesF zs) := by
  have hl := h.len
  refine waveportref07_divided_vc s V _ (fun _ x V' => ∃ k : Nat, x.t6 = (k : Int) ∧ k ≤ zs.length ∧ OptIn qC V' x.o15 zs.length (seqF (fun i => nth zs i * partQ zs.length) k)) (fun _ x _ => (zs.length - x.t6).toNat) ?_
  rw [hl]
  refine (ref1_New_spec (by omega) (by omega) (by omega) (by omega) (by omega) (by omega) (by omega)).mono fun v V1 l1 ⟨r1, hv, g1⟩ => ⟨r1, 0, hv, ?_⟩
  rw [Int.toNat_natCast]
  refine ⟨⟨by omega, by omega, by omega, by omega⟩, ⟨0, rfl, by omega, OptIn.start qC V1 _ _⟩, ?_⟩
  rintro ⟨t, o⟩ V2 l2 ⟨k, rfl, hk, ho⟩
  dsimp only at ho ⊢
  refine ⟨fun hlt => ?_, fun hge b V3 l3 hb => ?_⟩
  · simp only [decide_eq_true_eq] at hlt
    have hk' : k < zs.length := by omega
    obtain ⟨hb, x, hx, hs, hnx⟩ := (h.le (View.le_trans l1 l2)).get (t := (k : Int)) (by omega) (by rw [Int.toNat_natCast]; exact hk')
    rw [hl] at hb
    rw [Int.toNat_natCast] at hnx
    have hs1 := hS k hk'
    have hs2 := partQ_sz h1 hn
    refine ⟨hb, x, hx, hs, (ref1_Mul_spec hnx (g1.le l2) (by omega) (by show (partQ zs.length).sz ≤ _; omega)).mono fun v V3 l3 ⟨r, hv, hr⟩ => ⟨r, hv, ⟨by omega, by omega⟩, ?_⟩⟩
    rw [Int.toNat_natCast, i64w (by omega) (by omega)]
    have ho2 := ho.le (qC.le l3)
    exact ⟨ho2.room hk', ⟨k + 1, by omega, by omega, ho2.next hk' (q_len5 r) ⟨r, rfl, hr⟩⟩, by omega⟩
  · simp only [decide_eq_false_iff_not] at hge
    have hk' : k = zs.length := by omega
    subst hk'
    exact ⟨_, rfl, QsAt.of_made (zs := sharesF zs) hb ((ho.le (qC.le l3)).all fun p hp => seqF_all hp) (by simp [sharesF])⟩

theorem refEvery_spec {V : View} {s : Sl} {zs : List Cq} {a : Int} (h : QsAt V s zs) (ha : 0 ≤ a) (ha1 : a ≤ 1) (hn : zs.length ≤ 2 ^ 32) (hn1 : 1 ≤ zs.length) :
    CallV Tryz.prog n_waveportref07_every #[s.v, .int .i64 a] V fun v V' => ∃ r : Sl, v = r.v ∧ QsAt V' r (everyF zs a.toNat) := by
  have hl := h.len
  refine waveportref07_every_vc s a V _ (fun _ x V' => ∃ l, x.t6 = a + 2 * x.t5l ∧ 2 * x.t5l + a.toNat ≤ zs.length + 1 ∧ LstOk 5 x.t5l x.t5c x.o7 l ∧ QsIn V' l ((List.range x.t5l).map fun k => nth zs (a.toNat + 2 * k)))
    (fun _ x _ => zs.length + 2 - 2 * x.t5l) ⟨⟨[], by simp, by simp; omega, LstOk.nil, rfl⟩, ?_⟩
  rintro ⟨n, c, t, o⟩ V1 l1 ⟨l, ht, hm, hlo, hin⟩
  dsimp only at ht hm hlo hin ⊢
  refine ⟨fun hlt => ?_, fun hge => ?_⟩
  · simp only [decide_eq_true_eq] at hlt
    obtain ⟨hb, x, hx, hs, hnx⟩ := (h.le l1).get (t := t) (by omega) (by omega)
    refine ⟨hb, x, hx, hs, fun b V2 l2 hf hV2 => ?_⟩
    refine ⟨l, _, hlo, has_block (l := [.bool x.re.neg, x.re.mag.v, .bool x.im.neg, x.im.mag.v, x.under.v]) hV2, rfl, oneCell_num x, ?_, ?_, fun c1 l3 hl3 => ?_⟩
    · simp only [maxLen]; omega
    · omega
    · have e : IntKind.i64.wrap (t + 2) = t + 2 := i64w (by omega) (by omega)
      refine ⟨⟨_, by rw [e]; omega, by omega, hl3, ?_⟩, by omega⟩
      rw [← push_range]
      have e3 : a.toNat + 2 * n = t.toNat := by omega
      rw [e3]
      exact (hin.le l2).push (hnx.le l2)
  · simp only [decide_eq_false_iff_not] at hge
    intro b V3 l3 hb
    refine ⟨_, rfl, ?_⟩
    have e : n = (zs.length + 1 - a.toNat) / 2 := by omega
    unfold everyF
    rw [← e]
    obtain ⟨o', ho'⟩ := hlo.split
    refine ListAt.of_block (o := l) (o' := o') (b := b) (fun hne => ?_) (hin.le l3) (by simp) hlo.le (fun _ => rfl)
    rw [← ho'] at hne ⊢
    exact hb hne

/-- A list that is filled from the front and from the middle. -/
def twoF (h k : Nat) (F : Nat → Cq) (p : Nat) : Option Cq := if p < k ∨ (h ≤ p ∧ p < h + k) then some (F p) else none
theorem twoF_zero (h : Nat) (F : Nat → Cq) (p : Nat) : twoF h 0 F p = none := by unfold twoF; rw [if_neg (by omega)]
theorem twoF_step {h k : Nat} (hk : k < h) (F : Nat → Cq) (p : Nat) : (if p = k + h then some (F (k + h)) else if p = k then some (F k) else twoF h k F p) = twoF h (k + 1) F p := by
  unfold twoF
  by_cases c : p = k + h
  · subst c; rw [if_pos rfl, if_pos (by omega)]
  · rw [if_neg c]
    by_cases c2 : p = k
    · subst c2; rw [if_pos rfl, if_pos (by omega)]
    · rw [if_neg c2]
      by_cases c3 : p < k ∨ (h ≤ p ∧ p < h + k)
      · rw [if_pos c3, if_pos (by omega)]
      · rw [if_neg c3, if_neg (by omega)]

theorem refStages_spec : ∀ (m : Nat) {V : View} {p w : Sl} {zs ws : List Cq} (S T : Nat), m ≤ 6 → zs.length = 2 ^ m → ws.length = 2 ^ m → QsAt V p zs → QsAt V w ws →
    (∀ i, i < 2 ^ m → (nth zs i).sz ≤ S) → (∀ i, i < 2 ^ m → (nth ws i).sz ≤ T) → 2 ^ m * (S + T + 2) ≤ 2 ^ 39 →
    CallV Tryz.prog n_waveportref07_stages #[p.v, w.v] V fun v V' => ∃ r : Sl, v = r.v ∧ QsAt V' r (stageF m zs ws)
  | m, V, p, w, zs, ws, S, T, hm, hz, hw, hp, hq, hS, hT, hsz => by
    have hpl := hp.len
    have hwl := hq.len
    have hpow : 2 ^ m ≤ 64 := Nat.pow_le_pow_right (n := 2) (by omega) hm
    have hpos : 0 < 2 ^ m := Nat.pow_pos (by omega)
    refine waveportref07_stages_vc p w V _ (fun c x V' => ∃ m' k : Nat, m = m' + 1 ∧ x.t9 = (k : Int) ∧ k ≤ 2 ^ m' ∧ OptIn qC V' x.o30 (2 ^ m) (twoF (2 ^ m') k fun i => nth (stageF m zs ws) i))
      (fun _ x _ => (((2 ^ m : Nat) : Int) - x.t9).toNat) ⟨fun h1 => ?_, fun h1 => ?_⟩
    · have h1 : p.len = 1 := by have : (p.len : Int) = 1 := (by simpa using h1); omega
      have hm0 : m = 0 := by
        rcases Nat.eq_zero_or_pos m with h | h
        · exact h
        · have : 2 ^ 1 ≤ 2 ^ m := Nat.pow_le_pow_right (by omega) h
          omega
      subst hm0
      obtain ⟨hb, x, hx, hs, hnx⟩ := hp.get (t := 0) (by omega) (by simp [hz])
      refine ⟨hb, x, hx, hs, fun b V1 l1 _ hb1 => ⟨_, rfl, ?_⟩⟩
      exact QsAt.of_made (zs := stageF 0 zs ws) (o := [.bool x.re.neg, x.re.mag.v, .bool x.im.neg, x.im.mag.v, x.under.v]) (by simpa using hb1) (Cells.one (z := nth zs 0) rfl ⟨x, rfl, hnx.le l1⟩) rfl
    · have h1 : p.len ≠ 1 := by intro e; simp [e] at h1
      obtain ⟨m', rfl⟩ : ∃ m', m = m' + 1 := ⟨m - 1, by rcases Nat.eq_zero_or_pos m with h | h; · subst h; simp at hz; omega
                                                        · omega⟩
      have hp2 : 2 ^ (m' + 1) = 2 * 2 ^ m' := by rw [Nat.pow_succ]; omega
      have hmul : 2 ^ (m' + 1) * (S + T + 2) = 2 * (2 ^ m' * (S + T + 2)) := by rw [hp2, Nat.mul_assoc]
      have bz : ∀ a, a ≤ 1 → ∀ i, i < 2 ^ m' → (nth (everyF zs a) i).sz ≤ S := by
        intro a ha i hi; rw [everyF_nth (by omega)]; exact hS _ (by omega)
      have bw : ∀ i, i < 2 ^ m' → (nth (everyF ws 0) i).sz ≤ T := by
        intro i hi; rw [everyF_nth (by omega)]; exact hT _ (by omega)
      refine (refEvery_spec hp (Int.le_refl 0) (by omega) (by omega) (by omega)).mono fun v V1 l1 ⟨r1, hv, hr1⟩ => ⟨r1, hv, ?_⟩
      refine (refEvery_spec (hq.le l1) (Int.le_refl 0) (by omega) (by omega) (by omega)).mono fun v V2 l2 ⟨r2, hv, hr2⟩ => ⟨r2, hv, ?_⟩
      refine (refStages_spec m' S T (by omega) (by simp [everyF_length]; omega) (by simp [everyF_length]; omega) (hr1.le l2) hr2 (bz 0 (by omega)) bw (by omega)).mono fun v V3 l3 ⟨r3, hv, hr3⟩ => ⟨r3, hv, ?_⟩
      have L3 := View.le_trans l1 (View.le_trans l2 l3)
      refine (refEvery_spec (hp.le L3) (a := 1) (by omega) (by omega) (by omega) (by omega)).mono fun v V4 l4 ⟨r4, hv, hr4⟩ => ⟨r4, hv, ?_⟩
      refine (refEvery_spec (hq.le (View.le_trans L3 l4)) (Int.le_refl 0) (by omega) (by omega) (by omega)).mono fun v V5 l5 ⟨r5, hv, hr5⟩ => ⟨r5, hv, ?_⟩
      refine (refStages_spec m' S T (by omega) (by simp [everyF_length]; omega) (by simp [everyF_length]; omega) (hr4.le l5) hr5 (bz 1 (by omega)) bw (by omega)).mono fun v V6 l6 ⟨r6, hv, hr6⟩ => ⟨r6, hv, ?_⟩
      have L6 : View.le V V6 := View.le_trans L3 (View.le_trans l4 (View.le_trans l5 l6))
      have hr6 : QsAt V6 r6 (stageF m' (everyF zs 1) (everyF ws 0)) := hr6
      have h3 : QsAt V6 r3 (stageF m' (everyF zs 0) (everyF ws 0)) := hr3.le (View.le_trans l4 (View.le_trans l5 l6))
      have hdiv : IntKind.i64.wrap (Int.tdiv (p.len : Int) 2) = ((2 ^ m' : Nat) : Int) := by
        have e : Int.tdiv (p.len : Int) 2 = ((2 ^ m' : Nat) : Int) := by
          rw [Int.tdiv_eq_ediv_of_nonneg (by omega)]; omega
        rw [e]; exact i64w (by omega) (by omega)
      rw [hdiv, hpl, hz, Int.toNat_natCast]
      have lz := stageF_length m' (everyF zs 0) (everyF ws 0)
      have lw := stageF_length m' (everyF zs 1) (everyF ws 0)
      refine ⟨⟨by omega, by omega, by omega, by omega⟩, ⟨m', 0, rfl, rfl, by omega, (OptIn.zeros qC V6 _).congr fun p _ => (twoF_zero _ _ p).symm⟩, ?_⟩
      rintro ⟨t, o⟩ V7 l7 ⟨m2, k, em, rfl, hk, ho⟩
      have em : m' = m2 := by omega
      subst em
      dsimp only at ho ⊢
      refine ⟨fun hlt => ?_, fun hge b V12 l12 hb => ?_⟩
      · simp only [decide_eq_true_eq] at hlt
        have hk' : k < 2 ^ m' := by omega
        have l6' := hr6.len
        have l3' := h3.len
        obtain ⟨hb4, x4, hx4, hs4, hn4⟩ := (hr6.le l7).get (t := (k : Int)) (by omega) (by rw [Int.toNat_natCast]; omega)
        obtain ⟨hb5, x5, hx5, hs5, hn5⟩ := (hq.le (View.le_trans L6 l7)).get (t := (k : Int)) (by omega) (by rw [Int.toNat_natCast]; omega)
        have sE := stageF_sz m' (everyF zs 0) (everyF ws 0) S T (by simp [everyF_length]; omega) (by simp [everyF_length]; omega) (bz 0 (by omega)) bw k hk'
        have sO := stageF_sz m' (everyF zs 1) (everyF ws 0) S T (by simp [everyF_length]; omega) (by simp [everyF_length]; omega) (bz 1 (by omega)) bw k hk'
        have sW := hT k (by omega)
        have hm2 : S + T + 2 ≤ 2 ^ m' * (S + T + 2) := Nat.le_mul_of_pos_left _ (Nat.pow_pos (by omega))
        have sU := Cq.sz_mul (nth (stageF m' (everyF zs 1) (everyF ws 0)) k) (nth ws k)
        rw [Int.toNat_natCast] at hn4 hn5
        refine ⟨hb4, x4, hx4, hs4, hb5, x5, hx5, hs5, (ref1_Mul_spec hn4 hn5 (by omega) (by omega)).mono fun v V8 l8 ⟨r7, hv, hr7⟩ => ⟨r7, hv, ?_⟩⟩
        obtain ⟨hb6, x6, hx6, hs6, hn6⟩ := (h3.le (View.le_trans l7 l8)).get (t := (k : Int)) (by omega) (by rw [Int.toNat_natCast]; omega)
        have hn6' : QAt V8 x6 (nth (stageF m' (everyF zs 0) (everyF ws 0)) k) := by rw [Int.toNat_natCast] at hn6; exact hn6
        refine ⟨hb6, x6, hx6, hs6, (ref1_Add_spec hn6' hr7 (by omega) (by omega)).mono fun v V9 l9 ⟨r8, hv, hr8⟩ => ⟨r8, hv, ⟨by omega, by omega⟩, ?_⟩⟩
        rw [Int.toNat_natCast]
        have ho9 := ho.le (qC.le (View.le_trans l8 l9))
        refine ⟨ho9.room (by omega), hb6, x6, ?_, ?_, (ref1_Sub_spec (hn6'.le l9) (hr7.le l9) (by omega) (by omega)).mono fun v V10 l10 ⟨r9, hv, hr9⟩ => ⟨r9, hv, ?_⟩⟩
        · rw [Int.toNat_natCast] at hx6; exact View.has_le l9 hx6
        · rw [Int.toNat_natCast] at hs6; exact hs6
        have ek : IntKind.i64.wrap ((k : Int) + ((2 ^ m' : Nat) : Int)) = ((k + 2 ^ m' : Nat) : Int) := by rw [i64w (by omega) (by omega)]; omega
        rw [ek, Int.toNat_natCast, i64w (by omega) (by omega)]
        have e1 : nth (stageF (m' + 1) zs ws) k = nth (stageF m' (everyF zs 0) (everyF ws 0)) k + nth (stageF m' (everyF zs 1) (everyF ws 0)) k * nth ws k := by
          rw [stageF, nth_map (by omega), if_pos hk']
        have e2 : nth (stageF (m' + 1) zs ws) (k + 2 ^ m') = nth (stageF m' (everyF zs 0) (everyF ws 0)) k - nth (stageF m' (everyF zs 1) (everyF ws 0)) k * nth ws k := by
          rw [stageF, nth_map (by omega), if_neg (by omega), Nat.add_sub_cancel]
        have ho10 := ho.le (qC.le (View.le_trans l8 (View.le_trans l9 l10)))
        have s1 := ho10.set (i := k) (by omega) (q_len5 r8) (z := nth (stageF (m' + 1) zs ws) k) ⟨r8, rfl, by rw [e1]; exact hr8.le l10⟩
        have s2 := s1.set (i := k + 2 ^ m') (by omega) (q_len5 r9) (z := nth (stageF (m' + 1) zs ws) (k + 2 ^ m')) ⟨r9, rfl, by rw [e2]; exact hr9⟩
        refine ⟨⟨by omega, by omega⟩, s1.room (by omega), ⟨m', k + 1, rfl, by omega, by omega, s2.congr fun p _ => twoF_step hk' (fun i => nth (stageF (m' + 1) zs ws) i) p⟩, by omega⟩
      · simp only [decide_eq_false_iff_not] at hge
        have hk' : k = 2 ^ m' := by omega
        subst hk'
        have h2 := list_of_nth (stageF (m' + 1) zs ws)
        rw [stageF_length] at h2
        have ha := (ho.le (qC.le l12)).all (F := fun i => nth (stageF (m' + 1) zs ws) i) fun p hp => by unfold twoF; rw [if_pos (by omega)]
        rw [h2] at ha
        exact ⟨_, rfl, QsAt.of_made hb ha (by rw [stageF_length])⟩

theorem refFast_spec {V : View} {p w : Sl} {m : Nat} {zs ws : List Cq} (S T : Nat) (hm : m ≤ 6) (hz : zs.length = 2 ^ m) (hw : ws.length = 2 ^ m) (hp : QsAt V p zs) (hq : QsAt V w ws)
    (hS : ∀ i, i < 2 ^ m → (nth zs i).sz ≤ S) (hT : ∀ i, i < 2 ^ m → (nth ws i).sz ≤ T) (hsz : 2 ^ m * (S + T + 2) ≤ 2 ^ 39) :
    CallV Tryz.prog n_waveportref07_Fast #[p.v, w.v] V fun v V' => ∃ r : Sl, v = .tuple #[r.v, .int .i64 0] ∧ QsAt V' r (stageF m zs ws) := by
  have hl : lenB (2 ^ m) = true := lenB_pow m (by simp; omega)
  refine waveportref07_Fast_vc p w V _ ((over_spec p w).mono fun v V1 l1 hv => ⟨_, hv, fun h => ?_, fun _ => ?_⟩)
  · rw [hq.len, hw, hl, hp.len, hz] at h; simp at h
  · exact (refStages_spec m S T hm hz hw (hp.le l1) (hq.le l1) hS hT hsz).mono fun v V2 l2 ⟨r, hv, hr⟩ => ⟨r, hv, r, rfl, hr⟩

theorem refFastBack_spec {V : View} {p w : Sl} {m : Nat} {zs ws : List Cq} (S T : Nat) (hm : m ≤ 6) (hz : zs.length = 2 ^ m) (hw : ws.length = 2 ^ m) (hp : QsAt V p zs) (hq : QsAt V w ws)
    (hS : ∀ i, i < 2 ^ m → (nth zs i).sz ≤ S) (hT : ∀ i, i < 2 ^ m → (nth ws i).sz ≤ T) (hsz : 64 * (S + T + 2) ≤ 2 ^ 39) :
    CallV Tryz.prog n_waveportref07_FastBack #[p.v, w.v] V fun v V' => ∃ r : Sl, v = .tuple #[r.v, .int .i64 0] ∧ QsAt V' r (sharesF (stageF m zs (conjF ws))) := by
  have hl : lenB (2 ^ m) = true := lenB_pow m (by simp; omega)
  have hb := lenB_le hl
  refine waveportref07_FastBack_vc p w V _ ((over_spec p w).mono fun v V1 l1 hv => ⟨_, hv, fun h => ?_, fun _ => ?_⟩)
  · rw [hq.len, hw, hl, hp.len, hz] at h; simp at h
  refine (refConjugates_spec (hq.le l1) (by omega)).mono fun v V2 l2 ⟨r2, hv, h2⟩ => ⟨r2, hv, ?_⟩
  have hcl : (conjF ws).length = 2 ^ m := by rw [conjF_length, hw]
  have hT2 := conjF_sz ws T (by rw [hw]; exact hT)
  rw [hw] at hT2
  have hfs := stageF_sz m zs (conjF ws) S T hz hcl hS hT2
  have hmul : 2 ^ m * (S + T + 2) ≤ 64 * (S + T + 2) := Nat.mul_le_mul_right _ hb.2
  have hfl := stageF_length m zs (conjF ws)
  refine (refStages_spec m S T hm hz hcl (hp.le (View.le_trans l1 l2)) h2 hS hT2 (by omega)).mono fun v V3 l3 ⟨r3, hv, h3⟩ => ⟨r3, hv, ?_⟩
  exact (refDivided_spec h3 (by omega) (by omega) (by rw [hfl]; intro i hi; have := hfs i hi; omega)).mono fun v V4 l4 ⟨r4, hv, h4⟩ => ⟨r4, hv, r4, rfl, h4⟩
end Go.Proofs.YtcapadojlaojkaaGreat

namespace Go.Proofs.YtcapadojlaojkaaGreat
open Go Go.Vc Go.Proofs

theorem plain_spec {V : View} {s : Sl} {rs : List RatV} (h : RatsAt V s rs) (hn : rs.length ≤ 2 ^ 32) :
    CallV Tryz.prog n_waveportlaw07_plain #[s.v] V fun v V' => ∃ r : Sl, v = r.v ∧ RatsAt V' r (rs.map smallR) := by
  have hl := h.len
  let f : Nat → RatV := fun i => smallR (rnth rs i)
  refine waveportlaw07_plain_vc s V _ (fun _ x V' => ∃ k : Nat, x.t11 = (k : Int) ∧ k ≤ rs.length ∧ Cells 3 ratC V' x.o8 (rfilled rs.length k f)) (fun _ x _ => (rs.length - x.t11).toNat) ?_
  rw [hl, Int.toNat_natCast]
  refine ⟨⟨by omega, by omega, by omega, by omega⟩, ⟨0, rfl, by omega, ?_⟩, ?_⟩
  · have e : rfilled rs.length 0 f = List.replicate rs.length ⟨0, 0, 0⟩ := by simp [rfilled]
    rw [e]
    exact Cells.replicate rfl (ratC_of V 0 0 0) rs.length
  rintro ⟨t, o⟩ V1 l1 ⟨k, rfl, hk, hin⟩
  dsimp only at hin ⊢
  refine ⟨fun hlt => ?_, fun hge b V3 l3 hb => ?_⟩
  · simp only [decide_eq_true_eq] at hlt
    have hk' : k < rs.length := by omega
    obtain ⟨hb, x, hx, _, hh, hs⟩ := ListAt.get (h.le l1) (t := (k : Int)) (Int.natCast_nonneg _) (z := rnth rs k) (by rw [Int.toNat_natCast]; simp [rnth, List.getD, hk'])
    rw [hl] at hb
    refine ⟨hb, rnth rs k, hx ▸ hh, hs, (small_spec _).mono fun v V2 l2 hv => ⟨_, hv, ⟨by omega, by omega⟩, ?_⟩⟩
    rw [Int.toNat_natCast, i64w (by omega) (by omega)]
    refine ⟨Cells.room hin (by rw [rfilled_length (by omega)]; omega), ⟨k + 1, by omega, by omega, ?_⟩, by omega⟩
    rw [← rfilled_set hk']
    exact Cells.set0 (Cells.imp (P := ratC) (V := V1) (P' := ratC) (V' := V2) (fun _ _ h => h) hin) (by rw [rfilled_length (by omega)]; omega) rfl (ratC_of V2 _ _ _)
  · simp only [decide_eq_false_iff_not] at hge
    have e : k = rs.length := by omega
    subst e
    have e2 : rfilled rs.length rs.length f = rs.map smallR := by
      simp only [rfilled, Nat.sub_self, List.replicate_zero, List.append_nil, f]
      apply List.ext_getElem (by simp)
      intro i g1 g2
      have : i < rs.length := by simpa using g2
      simp [rnth, List.getD, this]
    rw [e2] at hin
    exact ⟨_, rfl, ListAt.of_made hb (Cells.imp (P := ratC) (V := V1) (P' := ratC) (V' := V3) (fun _ _ h => h) hin) (by simp)⟩

def fitB (zs ws : List Cq) : Bool := lenB ws.length && decide (zs.length = ws.length)

section bad
variable {V : View} {p w : Sl} {zs ws : List Cq}
theorem fits_at (hp : NumsAt V p zs) (hq : NumsAt V w ws) : (lenB w.len && decide (p.len = w.len)) = fitB zs ws := by rw [hp.len, hq.len]; rfl
theorem fits_at' (hp : QsAt V p zs) (hq : QsAt V w ws) : (lenB w.len && decide (p.len = w.len)) = fitB zs ws := by rw [hp.len, hq.len]; rfl

theorem FastBack_bad (hp : NumsAt V p zs) (hq : NumsAt V w ws) (hf : fitB zs ws = false) :
    CallV Tryz.prog n_transform_FastBack_num_Num_ #[p.v, w.v] V fun v V' => ∃ r : Sl, v = .tuple #[r.v, .int .i64 4] ∧ NumsAt V' r [] := by
  refine transform_FastBack_num_Num__vc p w V _ ((transform_fits_spec p w).mono fun v V1 l1 hv => ⟨_, hv, fun _ => ⟨_, rfl, ListAt.nil⟩, fun h => ?_⟩)
  rw [fits_at hp hq, hf] at h; simp at h
theorem refFastBack_bad (hp : QsAt V p zs) (hq : QsAt V w ws) (hf : fitB zs ws = false) :
    CallV Tryz.prog n_waveportref07_FastBack #[p.v, w.v] V fun v V' => ∃ r : Sl, v = .tuple #[r.v, .int .i64 4] ∧ QsAt V' r [] := by
  refine waveportref07_FastBack_vc p w V _ ((over_spec p w).mono fun v V1 l1 hv => ⟨_, hv, fun _ => ⟨_, rfl, ListAt.nil⟩, fun h => ?_⟩)
  rw [fits_at' hp hq, hf] at h; simp at h
end bad

theorem lenB_two {n : Nat} (h : lenB n = true) : ∃ m, m ≤ 6 ∧ n = 2 ^ m := by
  have hmem : n ∈ [1, 2, 4, 8, 16, 32, 64] := by unfold lenB at h; exact List.contains_iff_mem.1 h
  simp only [List.mem_cons, List.not_mem_nil, or_false] at hmem
  rcases hmem with h | h | h | h | h | h | h
  · exact ⟨0, by omega, h⟩
  · exact ⟨1, by omega, h⟩
  · exact ⟨2, by omega, h⟩
  · exact ⟨3, by omega, h⟩
  · exact ⟨4, by omega, h⟩
  · exact ⟨5, by omega, h⟩
  · exact ⟨6, by omega, h⟩

end Go.Proofs.YtcapadojlaojkaaGreat

namespace Go.Proofs.YtcapadojlaojkaaGreat
open Go Go.Vc Go.Proofs

theorem transform_length_any {V : View} (n : Int) : CallV Tryz.prog n_transform_length #[.int .i64 n] V fun v _ => v = .bool (lenB n.toNat) := by
  by_cases h0 : 0 ≤ n
  · exact transform_length_spec h0
  · have e : n.toNat = 0 := by omega
    refine transform_length_vc n V _ ⟨fun h1 => ?_, fun _ => ⟨fun h => absurd h (by simp), fun _ => ?_⟩⟩
    · exfalso; simp at h1; omega
    · rw [e]; rfl

end Go.Proofs.YtcapadojlaojkaaGreat

namespace Go.Proofs.YtcapadojlaojkaaGreat
open Go Go.Vc Go.Proofs

instance (g : GateV) (n : Int) : Decidable (gateOk g n) := inferInstanceAs (Decidable (_ ∧ _ ∧ _ ∧ _))
/-- The error of a gate for a length. -/
def gtE (g : GateV) (n : Int) : Int := if lenB n.toNat = true then (if gateOk g n then 0 else 1) else 4
theorem lenB_int {n : Int} (h : lenB n.toNat = true) : ∃ m : Nat, n = m ∧ 1 ≤ m ∧ m ≤ 64 ∧ lenB m = true := by
  have := lenB_le h
  exact ⟨n.toNat, by omega, by omega, by omega, h⟩
theorem transform_valid_any {V : View} (g : GateV) (n : Int) : CallV Tryz.prog n_transform_valid #[g.val, .int .i64 n] V fun v _ => v = .int .i64 (gtE g n) := by
  refine transform_valid_vc g n V _ ((transform_length_any n).mono fun v V1 l1 hv => ⟨_, hv, fun h => ?_, fun h => ⟨fun h1 => ?_, fun h1 => ⟨fun h2 => ?_, fun h2 => ⟨fun h3 => ?_, fun h3 => ⟨fun h4 => ?_, fun h4 => ?_⟩⟩⟩⟩⟩)
  · have : lenB n.toNat = false := by simpa using h
    unfold gtE; rw [this]; rfl
  all_goals
    have hl : lenB n.toNat = true := by simpa using h
    unfold gtE; rw [if_pos hl]
  · simp only [decide_eq_true_eq] at h1
    rw [if_neg (fun x => by have := x.1; omega)]; simp
  · simp only [decide_eq_true_eq] at h2
    rw [if_neg (fun x => by have := x.2.1; omega)]; simp
  · simp only [decide_eq_true_eq] at h3
    rw [if_neg (fun x => by have := x.2.2.1; omega)]; simp
  · simp only [decide_eq_true_eq] at h4
    rw [if_neg (fun x => by have := x.2.2.2; omega)]
  · simp only [decide_eq_false_iff_not] at h1 h2 h3 h4
    rw [if_pos ⟨by omega, by omega, by omega, by omega⟩]
theorem Allowed_spec {V : View} (g : GateV) (n : Int) : CallV Tryz.prog n_waveportref07_Allowed #[g.val, .int .i64 n] V fun v _ => v = .bool (decide (gateOk g n)) := by
  refine waveportref07_Allowed_vc g n V _ ⟨fun h1 => ⟨fun h2 => ⟨fun h3 => ?_, fun h3 => ?_⟩, fun h2 => ?_⟩, fun h1 => ?_⟩
  · simp only [decide_eq_true_eq] at h1 h2 h3
    congr 1
    by_cases h4 : g.count ≤ n
    · rw [decide_eq_true h4, decide_eq_true ⟨by omega, h2, by omega, h4⟩]
    · rw [decide_eq_false h4, decide_eq_false (fun x => h4 x.2.2.2)]
  · simp only [decide_eq_false_iff_not] at h3
    rw [decide_eq_false (fun x => h3 (by have := x.2.2.1; omega))]
  · simp only [decide_eq_false_iff_not] at h2
    rw [decide_eq_false (fun x => h2 x.2.1)]
  · simp only [decide_eq_false_iff_not] at h1
    rw [decide_eq_false (fun x => h1 (by have := x.1; omega))]
theorem Inside_spec {V : View} {g : GateV} {n : Nat} (hg : gateOk g n) (hn : n ≤ 64) :
    CallV Tryz.prog n_waveportref07_Inside #[g.val, .int .i64 (n : Int)] V fun v V' => ∃ r : Sl, v = r.v ∧ BoolsAt V' r (gList n g.from_.toNat g.count.toNat) := by
  obtain ⟨h1, h2, h3, h4⟩ := hg
  have hf : g.from_.toNat < n := by omega
  refine waveportref07_Inside_vc g (n : Int) V _ (fun _ x V' => 0 ≤ x.t6 ∧ x.t6 ≤ g.count ∧ Cells 1 boolC V' x.o8 (gList n g.from_.toNat x.t6.toNat)) (fun _ x _ => (g.count - x.t6).toNat) ⟨⟨by omega, by omega, by omega, by omega⟩, ⟨Int.le_refl 0, h3, ?_⟩, ?_⟩
  · rw [Int.toNat_natCast]
    show Cells 1 boolC V _ (gList n g.from_.toNat 0)
    rw [gList_zero]
    exact Cells.replicate rfl (boolC_mk V false) n
  rintro ⟨t, o⟩ V1 l1 ⟨h0, ht, hin⟩
  dsimp only at h0 ht hin ⊢
  rw [Int.toNat_natCast]
  refine ⟨fun hlt => ?_, fun hge => ?_⟩
  · simp only [decide_eq_true_eq] at hlt
    have e1 : IntKind.i64.wrap (t + 1) = t + 1 := i64w (by omega) (by omega)
    have e2 : (t + 1).toNat = t.toNat + 1 := by omega
    have e3 : Int.tmod (IntKind.i64.wrap (g.from_ + t)) (n : Int) = (((g.from_.toNat + t.toNat) % n : Nat) : Int) := by
      rw [i64w (by omega) (by omega), Int.tmod_eq_emod_of_nonneg (by omega)]
      have : g.from_ + t = ((g.from_.toNat + t.toNat : Nat) : Int) := by omega
      rw [this]; rfl
    have hm : (g.from_.toNat + t.toNat) % n < n := Nat.mod_lt _ (by omega)
    rw [e3, e1, Int.toNat_natCast]
    have hgl : (gList n g.from_.toNat t.toNat).length = n := by simp [gList]
    refine ⟨by omega, ⟨by omega, by omega⟩, Cells.room hin (by rw [hgl]; exact hm), ⟨by omega, by omega, ?_⟩, by omega⟩
    rw [e2, ← gList_set hf (by omega)]
    exact Cells.set0 hin (by rw [hgl]; exact hm) rfl (boolC_mk V1 true)
  · simp only [decide_eq_false_iff_not] at hge
    intro b V2 l2 hb
    have e : t = g.count := by omega
    rw [e] at hin
    exact ⟨_, rfl, ListAt.of_made hb (Cells.imp (P := boolC) (V := V1) (P' := boolC) (V' := V2) (fun _ _ h => h) hin) (by simp [gList])⟩

theorem wholeQ_zero {V : View} : CallV Tryz.prog n_ref1_Whole #[.int .i64 0] V fun v V1 => ∃ r1 : NumV, v = r1.val ∧ QAt V1 r1 Cq.zero := by
  have ez : (⟨((0 : Int) : Rat), 0⟩ : Cq) = Cq.zero := rfl
  exact (ref1_Whole_spec (n := 0) (by omega) (by omega)).mono fun v V1 _ ⟨r, hv, hr⟩ => ⟨r, hv, by rw [← ez]; exact hr⟩
/-- The list that a cut comes to. -/
def cutL (zs : List Cq) (g : GateV) : List Cq := if gtE g zs.length = 0 then cutF zs (inG zs.length g.from_.toNat g.count.toNat) else []
theorem gtE_zero {g : GateV} {n : Nat} : gtE g n = 0 ↔ lenB n = true ∧ gateOk g n := by
  unfold gtE; rw [Int.toNat_natCast]
  split
  · split
    · exact ⟨fun _ => ⟨by assumption, by assumption⟩, fun _ => rfl⟩
    · exact ⟨fun h => absurd h (by decide), fun h => absurd h.2 (by assumption)⟩
  · exact ⟨fun h => absurd h (by decide), fun h => absurd h.1 (by assumption)⟩
theorem Cut_any {V : View} {s : Sl} {zs : List Cq} (g : GateV) (h : NumsAt V s zs) :
    CallV Tryz.prog n_transform_Cut_num_Num_ #[s.v, g.val] V fun v V' => ∃ r : Sl, v = .tuple #[r.v, .int .i64 (gtE g zs.length)] ∧ NumsAt V' r (cutL zs g) := by
  by_cases c : gtE g zs.length = 0
  · obtain ⟨c1, c2⟩ := gtE_zero.1 c
    unfold cutL; rw [if_pos c, c]
    exact Cut_spec h c1 c2
  · unfold cutL; rw [if_neg c]
    refine transform_Cut_num_Num__vc s g V _ (fun _ _ _ => True) (fun _ _ _ => 0) ?_
    rw [h.len]
    refine (transform_valid_any g _).mono fun v V1 l1 hv => ⟨_, hv, fun _ => ⟨_, rfl, ListAt.nil⟩, fun h => ?_⟩
    exact absurd (by simpa using h) c
theorem refCut_any {V : View} {s : Sl} {zs : List Cq} (g : GateV) (h : QsAt V s zs) :
    CallV Tryz.prog n_waveportref07_Cut #[s.v, g.val] V fun v V' => ∃ r : Sl, v = .tuple #[r.v, .int .i64 (gtE g zs.length)] ∧ QsAt V' r (cutL zs g) := by
  have hl := h.len
  let F : Nat → Cq := fun k => if inG zs.length g.from_.toNat g.count.toNat k = true then nth zs k else Cq.zero
  refine waveportref07_Cut_vc s g V _ (fun _ x V' => ∃ k : Nat, x.t8 = (k : Int) ∧ k ≤ zs.length ∧ OptIn qC V' x.o24 zs.length (seqF F k)) (fun _ x _ => (zs.length - x.t8).toNat) ?_
  rw [hl, Int.toNat_natCast]
  refine (Length_spec _).mono fun v V1 l1 hv => ⟨_, hv, fun h1 => ?_, fun h1 => ?_⟩
  · rw [Int.toNat_natCast] at h1
    have h1 : lenB zs.length = false := by simpa using h1
    have e : gtE g zs.length = 4 := by unfold gtE; rw [Int.toNat_natCast, h1]; rfl
    refine ⟨_, by rw [e], ?_⟩
    unfold cutL; rw [e, if_neg (by decide)]; exact ListAt.nil
  rw [Int.toNat_natCast] at h1
  have h1 : lenB zs.length = true := by simpa using h1
  have hb := lenB_le h1
  refine (Allowed_spec g _).mono fun v V2 l2 hv => ⟨_, hv, fun h2 => ?_, fun h2 => ?_⟩
  · have h2 : ¬ gateOk g zs.length := by simpa using h2
    have e : gtE g zs.length = 1 := by unfold gtE; rw [Int.toNat_natCast, if_pos h1, if_neg h2]
    refine ⟨_, by rw [e], ?_⟩
    unfold cutL; rw [e, if_neg (by decide)]; exact ListAt.nil
  have h2 : gateOk g zs.length := by simpa using h2
  have e : gtE g zs.length = 0 := gtE_zero.2 ⟨h1, h2⟩
  unfold cutL
  rw [e, if_pos rfl]
  refine (Inside_spec h2 hb.2).mono fun v V3 l3 ⟨r, hv, hr⟩ => ⟨r, hv, ⟨by omega, by omega, by omega, by omega⟩, ⟨0, rfl, by omega, OptIn.start qC V3 _ F⟩, ?_⟩
  have hrl : r.len = zs.length := by have := hr.len; simpa [gList] using this
  rintro ⟨t, o⟩ V4 l4 ⟨k, rfl, hk, ho⟩
  dsimp only at ho ⊢
  refine ⟨fun hlt => ?_, fun hge b V6 l6 hb6 => ?_⟩
  · simp only [decide_eq_true_eq] at hlt
    have hk' : k < zs.length := by omega
    refine wholeQ_zero.mono fun v V5 l5 ⟨z, hv, hz⟩ => ⟨z, hv, ⟨by omega, by omega⟩, ?_⟩
    have ho5 := ho.le (qC.le l5)
    rw [Int.toNat_natCast, i64w (by omega) (by omega)]
    obtain ⟨hbx, x, hx, _, hh, _⟩ := ListAt.get ((BoolsAt.le (View.le_trans l4 l5) hr)) (t := (k : Int)) (by omega) (z := inG zs.length g.from_.toNat g.count.toNat k) (by simp [gList, hk'])
    refine ⟨ho5.room hk', hbx, inG zs.length g.from_.toNat g.count.toNat k, bool_load (by rw [show x = _ from hx] at hh; exact hh), fun hin => ?_, fun hin => ?_⟩
    · obtain ⟨hb4, x4, hx4, hs4, hn4⟩ := (h.le (View.le_trans l1 (View.le_trans l2 (View.le_trans l3 (View.le_trans l4 l5))))).get (t := (k : Int)) (by omega) (by rw [Int.toNat_natCast]; exact hk')
      rw [hl] at hb4
      rw [Int.toNat_natCast] at hn4
      have s1 := ho5.set hk' (q_len5 z) (z := Cq.zero) ⟨z, rfl, hz⟩
      refine ⟨hb4, x4, hx4, hs4, ⟨by omega, by omega⟩, s1.room hk', ⟨k + 1, by omega, by omega, (s1.set hk' (q_len5 x4) (z := nth zs k) ⟨x4, rfl, hn4⟩).congr fun p _ => ?_⟩, by omega⟩
      have e : nth zs k = F k := by simp only [F]; rw [if_pos hin]
      rw [e]
      unfold seqF
      by_cases c : p = k
      · subst c; simp
      · rw [if_neg c, if_neg c]
        by_cases c2 : p < k
        · rw [if_pos c2, if_pos (by omega)]
        · rw [if_neg c2, if_neg (by omega)]
    · have s1 := ho5.set hk' (q_len5 z) (z := Cq.zero) ⟨z, rfl, hz⟩
      refine ⟨⟨k + 1, by omega, by omega, s1.congr fun p _ => ?_⟩, by omega⟩
      have e : Cq.zero = F k := by simp only [F]; rw [if_neg (by rw [hin]; simp)]
      rw [e]
      unfold seqF
      by_cases c : p = k
      · subst c; simp
      · rw [if_neg c]
        by_cases c2 : p < k
        · rw [if_pos c2, if_pos (by omega)]
        · rw [if_neg c2, if_neg (by omega)]
  · simp only [decide_eq_false_iff_not] at hge
    have hk' : k = zs.length := by omega
    subst hk'
    have ha := (ho.le (qC.le l6)).all (F := F) fun p hp => by unfold seqF; rw [if_pos hp]
    exact ⟨_, rfl, QsAt.of_made (zs := cutF zs (inG zs.length g.from_.toNat g.count.toNat)) hb6 ha (by rw [cutF_length])⟩

/-- The rest of a gate. -/
def restG (g : GateV) (n : Int) : GateV := if gtE g n = 0 then ⟨(g.from_ + g.count) % n, n - g.count⟩ else ⟨0, 0⟩
theorem Rest_any {V : View} (g : GateV) (n : Int) : CallV Tryz.prog n_transform_Rest #[g.val, .int .i64 n] V fun v _ => v = .tuple #[(restG g n).val, .int .i64 (gtE g n)] := by
  by_cases c : gtE g n = 0
  · have h1 : lenB n.toNat = true := by
      cases h : lenB n.toNat with
      | true => rfl
      | false => exfalso; unfold gtE at c; rw [h, if_neg (by decide)] at c; omega
    obtain ⟨m, rfl, _, _, h1⟩ := lenB_int h1
    obtain ⟨_, c2⟩ := gtE_zero.1 c
    unfold restG; rw [if_pos c, c]
    exact transform_Rest_ok h1 c2
  · unfold restG; rw [if_neg c]
    refine transform_Rest_vc g n V _ ((transform_valid_any g n).mono fun v V1 l1 hv => ⟨_, hv, fun _ => rfl, fun h => ?_⟩)
    exact absurd (by simpa using h) c
theorem refRest_any {V : View} (g : GateV) (n : Int) : CallV Tryz.prog n_waveportref07_Rest #[g.val, .int .i64 n] V fun v _ => v = .tuple #[(restG g n).val, .int .i64 (gtE g n)] := by
  refine waveportref07_Rest_vc g n V _ ((Length_spec n).mono fun v V1 l1 hv => ⟨_, hv, fun h1 => ?_, fun h1 => ?_⟩)
  · have h1 : lenB n.toNat = false := by simpa using h1
    have e : gtE g n = 4 := by unfold gtE; rw [h1]; rfl
    unfold restG; rw [e, if_neg (by decide)]
  have h1 : lenB n.toNat = true := by simpa using h1
  obtain ⟨m, rfl, m1, m2, h1⟩ := lenB_int h1
  refine (Allowed_spec g _).mono fun v V2 l2 hv => ⟨_, hv, fun h2 => ?_, fun h2 => ?_⟩
  · have h2 : ¬ gateOk g m := by simpa using h2
    have e : gtE g m = 1 := by unfold gtE; rw [Int.toNat_natCast, if_pos h1, if_neg h2]
    unfold restG; rw [e, if_neg (by decide)]
  have h2 : gateOk g m := by simpa using h2
  have e : gtE g m = 0 := gtE_zero.2 ⟨h1, h2⟩
  obtain ⟨g1, g2, g3, g4⟩ := h2
  unfold restG
  rw [e, if_pos rfl]
  refine ⟨by omega, ?_⟩
  rw [i64w (by omega) (by omega), i64w (by omega) (by omega), Int.tmod_eq_emod_of_nonneg (by omega)]
end Go.Proofs.YtcapadojlaojkaaGreat

namespace Go.Proofs.YtcapadojlaojkaaGreat
open Go Go.Vc Go.Proofs

theorem ref1_IntCmp_spec {V : View} {x y : WhV} {a b : Int} (hx : IntAt V x a) (hy : IntAt V y b) (ha : wn a.natAbs ≤ 2 ^ 43) (hb : wn b.natAbs ≤ 2 ^ 43) :
    CallV Tryz.prog n_ref1_IntCmp #[x.val, y.val] V fun v _ => v = .int .i64 (cmpZ a b) := by
  have h1 := hx.1
  have h2 := hy.1
  refine ref1_IntCmp_vc x y V _ ⟨fun h => ⟨fun hn => ?_, fun hn => ?_⟩, fun h => ⟨fun hn => ?_, fun hn => ?_⟩⟩
  · rw [h1] at hn h; rw [h2] at h
    have ha := of_decide_eq_true hn
    have hb : ¬ b < 0 := fun c => by rw [decide_eq_true ha, decide_eq_true c] at h; simp at h
    rw [cmpZ_lt (by omega)]
  · rw [h1] at hn h; rw [h2] at h
    have ha := of_decide_eq_false hn
    have hb : b < 0 := Classical.byContradiction fun c => by rw [decide_eq_false ha, decide_eq_false c] at h; simp at h
    rw [cmpZ_gt (by omega)]
  · rw [h1] at hn h; rw [h2] at h
    have ha' := of_decide_eq_true hn
    have hb' : b < 0 := Classical.byContradiction fun c => by rw [decide_eq_true ha', decide_eq_false c] at h; simp at h
    refine (ref1_NatCmp_spec hy.2 hx.2 (by omega)).mono fun v V1 _ hv => ⟨_, hv, ?_⟩
    congr 1; unfold cmpZ
    split
    · rw [if_pos (by omega)]
    · split
      · rw [if_neg (by omega), if_pos (by omega)]
      · rw [if_neg (by omega), if_neg (by omega)]
  · rw [h1] at hn h; rw [h2] at h
    have ha' := of_decide_eq_false hn
    have hb' : ¬ b < 0 := fun c => by rw [decide_eq_false ha', decide_eq_true c] at h; simp at h
    refine (ref1_NatCmp_spec hx.2 hy.2 (by omega)).mono fun v V1 _ hv => ⟨_, hv, ?_⟩
    congr 1; unfold cmpZ
    split
    · rw [if_pos (by omega)]
    · split
      · rw [if_neg (by omega), if_pos (by omega)]
      · rw [if_neg (by omega), if_neg (by omega)]
theorem ref1_Same_spec {V : View} {x y : NumV} {z w : Cq} (hx : QAt V x z) (hy : QAt V y w) (hz : z.sz ≤ 2 ^ 40) (hw : w.sz ≤ 2 ^ 40) :
    CallV Tryz.prog n_ref1_Same #[x.val, y.val] V fun v _ => v = .bool (decide (z = w)) := by
  have zA := Cq.wA hz; have zB := Cq.wB hz; have zD := Cq.wD hz
  have wA := Cq.wA hw; have wB := Cq.wB hw; have wD := Cq.wD hw
  refine ref1_Same_vc x y V _ ((ref1_IntCmp_spec hx.re hy.re (by omega) (by omega)).mono fun v V1 l1 hv => ⟨_, hv, fun h1 => ?_, fun h1 => ?_⟩)
  · have h1 : z.A = w.A := cmpZ_zero.1 (by simpa using h1)
    refine (ref1_IntCmp_spec (hx.im.le l1) (hy.im.le l1) (by omega) (by omega)).mono fun v V2 l2 hv => ⟨_, hv, fun h2 => ?_, fun h2 => ?_⟩
    · have h2 : z.B = w.B := cmpZ_zero.1 (by simpa using h2)
      refine (ref1_NatCmp_spec (hx.under.le (View.le_trans l1 l2)) (hy.under.le (View.le_trans l1 l2)) (by omega)).mono fun v V3 l3 hv => ⟨_, hv, ?_⟩
      congr 1
      by_cases e : z.D = w.D
      · have : z = w := Cq.eq_of h1 h2 e
        subst this; simp
      · have : z ≠ w := by rintro rfl; exact e rfl
        simp only [this, decide_false]
        rw [if_neg e]
        by_cases h : z.D < w.D
        · rw [if_pos h]; rfl
        · rw [if_neg h]; rfl
    · have h2 : ¬ z.B = w.B := fun e => by rw [cmpZ_zero.2 e] at h2; simp at h2
      have : z ≠ w := by rintro rfl; exact h2 rfl
      simp [this]
  · have h1 : ¬ z.A = w.A := fun e => by rw [cmpZ_zero.2 e] at h1; simp at h1
    have : z ≠ w := by rintro rfl; exact h1 rfl
    simp [this]

theorem bools_set {n a : Nat} (S T : Nat → Bool) (h : ∀ p, p < n → T p = if p = a then true else S p) : ((List.range n).map S).set a true = (List.range n).map T := by
  apply List.ext_getElem (by simp)
  intro i h1 h2
  have hi : i < n := by simpa using h2
  simp only [List.getElem_set, List.getElem_map, List.getElem_range]
  rw [h i hi]
  by_cases c : a = i
  · subst c; simp
  · rw [if_neg c, if_neg (fun x => c x.symm)]
theorem bools_congr {n : Nat} (S T : Nat → Bool) (h : ∀ p, p < n → S p = T p) : (List.range n).map S = (List.range n).map T :=
  List.map_congr_left fun p hp => h p (by simpa using hp)

/-- How far the reference has come. -/
def nrS (B : Nat → Bool) (n : Nat) (gd : Int) (a b p : Nat) : Bool := if p < a then nrP B n gd p n else if p = a then nrP B n gd a b else false
theorem nrS_next (B : Nat → Bool) (n : Nat) (gd : Int) (a p : Nat) : nrS B n gd a n p = nrS B n gd (a + 1) 0 p := by
  unfold nrS
  by_cases c : p < a
  · rw [if_pos c, if_pos (by omega)]
  · rw [if_neg c]
    by_cases c2 : p = a
    · subst c2; rw [if_pos rfl, if_pos (by omega)]
    · rw [if_neg c2, if_neg (by omega)]
      split
      · rw [nrP_zero]
      · rfl
theorem nrS_stay {B : Nat → Bool} {n : Nat} {gd : Int} {a b : Nat} (h : (B b && !B a && decide ((cd n a b : Int) ≤ gd)) = false) (p : Nat) : nrS B n gd a b p = nrS B n gd a (b + 1) p := by
  unfold nrS; rw [nrP_succ, h, Bool.or_false]
theorem nrS_hit {B : Nat → Bool} {n : Nat} {gd : Int} {a b : Nat} (h : (B b && !B a && decide ((cd n a b : Int) ≤ gd)) = true) (p : Nat) : nrS B n gd a (b + 1) p = if p = a then true else nrS B n gd a b p := by
  unfold nrS; rw [nrP_succ, h, Bool.or_true]
  by_cases c : p = a
  · subst c; rw [if_pos rfl, if_neg (by omega), if_pos rfl]
  · rw [if_neg c, if_neg c, if_neg c]
theorem bools_imp {V V' : View} {o : List Value} {l : List Bool} (h : Cells 1 boolC V o l) : Cells 1 boolC V' o l := Cells.imp (P := boolC) (V := V) (P' := boolC) (V' := V') (fun _ _ h => h) h

theorem Near_spec {V : View} {g : GateV} {n : Nat} {gd : Int} (hg : gateOk g n) (hn : n ≤ 64) :
    CallV Tryz.prog n_waveportref07_Near #[g.val, .int .i64 (n : Int), .int .i64 gd] V fun v V' => ∃ r : Sl, v = r.v ∧ BoolsAt V' r ((List.range n).map fun k => nrP (inG n g.from_.toNat g.count.toNat) n gd k n) := by
  refine waveportref07_Near_vc g n gd V _
    (fun _ x V' => ∃ a : Nat, x.t9 = (a : Int) ∧ a ≤ n ∧ Cells 1 boolC V' x.o16 ((List.range n).map (nrS (inG n g.from_.toNat g.count.toNat) n gd a 0))) (fun _ x _ => (n - x.t9).toNat)
    (fun c x V' => ∃ a b : Nat, c.t9 = (a : Int) ∧ x.t10 = (b : Int) ∧ a < n ∧ b ≤ n ∧ Cells 1 boolC V' x.o16 ((List.range n).map (nrS (inG n g.from_.toNat g.count.toNat) n gd a b))) (fun _ x _ => (n - x.t10).toNat)
    (fun c x _ => x.t11 = if c.t9 < c.t10 then c.t10 - c.t9 else c.t9 - c.t10)
    (fun c x _ => x.t11 = ((cd n c.t9.toNat c.t10.toNat : Nat) : Int)) ?_
  generalize hBd : inG n g.from_.toNat g.count.toNat = B
  refine ⟨⟨by omega, by omega, by omega, by omega⟩, (Inside_spec hg hn).mono fun v V1 l1 ⟨r, hv, hr⟩ => ⟨r, hv, ⟨0, rfl, by omega, ?_⟩, ?_⟩⟩
  · rw [Int.toNat_natCast]
    have e : (List.range n).map (nrS B n gd 0 0) = List.replicate n false := by
      apply List.ext_getElem (by simp)
      intro i h1 h2
      simp only [List.getElem_map, List.getElem_range, List.getElem_replicate]
      unfold nrS
      rw [if_neg (by omega)]
      split
      · rw [nrP_zero]
      · rfl
    show Cells 1 boolC V1 _ _
    rw [e]; exact Cells.replicate rfl (boolC_mk V1 false) n
  have hrl : r.len = n := by have := hr.len; simpa [gList] using this
  have hgl : gList n g.from_.toNat g.count.toNat = (List.range n).map B := by rw [← hBd]; rfl
  rw [hgl] at hr
  rintro ⟨t, o⟩ V2 l2 ⟨a, rfl, ha, ho⟩
  dsimp only at ho ⊢
  refine ⟨fun h1 => ?_, fun h1 b V6 l6 hb => ?_⟩
  · simp only [decide_eq_true_eq] at h1
    refine ⟨⟨a, 0, rfl, rfl, by omega, by omega, ho⟩, ?_⟩
    rintro ⟨t2, o2⟩ V3 l3 ⟨a', b, ha', rfl, han, hb, ho2⟩
    dsimp only at ha' ho2 ⊢
    have ea : a' = a := by omega
    subst ea
    refine ⟨fun h2 => ?_, fun h2 => ?_⟩
    · simp only [decide_eq_true_eq] at h2
      have w1 : IntKind.i64.wrap ((a' : Int) - (b : Int)) = (a' : Int) - b := i64w (by omega) (by omega)
      rw [w1]
      refine ⟨⟨fun h3 => ?_, fun h3 => ?_⟩, ?_⟩
      · simp only [decide_eq_true_eq] at h3
        show IntKind.i64.wrap (0 - ((a' : Int) - b)) = if (a' : Int) < b then (b : Int) - a' else a' - b
        rw [i64w (by omega) (by omega), if_pos (by omega)]; omega
      · simp only [decide_eq_false_iff_not] at h3
        show (a' : Int) - b = if (a' : Int) < b then (b : Int) - a' else a' - b
        rw [if_neg (by omega)]
      rintro ⟨f⟩ V4 l4 hf
      have hf : f = if (a' : Int) < b then (b : Int) - a' else a' - b := hf
      dsimp only
      have f0 : 0 ≤ f ∧ f < n := by rw [hf]; split <;> omega
      have w2 : IntKind.i64.wrap ((n : Int) - f) = (n : Int) - f := i64w (by omega) (by omega)
      rw [w2]
      have hcd : ((cd n a' b : Nat) : Int) = if (n : Int) - f < f then n - f else f := by
        unfold cd
        rw [hf]
        by_cases c : a' < b
        · rw [if_pos c, if_pos (by omega : (a' : Int) < b)]
          split
          · rw [if_pos (by omega)]; omega
          · rw [if_neg (by omega)]; omega
        · rw [if_neg c, if_neg (by omega : ¬ (a' : Int) < b)]
          split
          · rw [if_pos (by omega)]; omega
          · rw [if_neg (by omega)]; omega
      refine ⟨⟨fun h3 => ?_, fun h3 => ?_⟩, ?_⟩
      · simp only [decide_eq_true_eq] at h3
        show (n : Int) - f = ((cd n ((a' : Int)).toNat ((b : Int)).toNat : Nat) : Int)
        rw [Int.toNat_natCast, Int.toNat_natCast, hcd, if_pos h3]
      · simp only [decide_eq_false_iff_not] at h3
        show f = ((cd n ((a' : Int)).toNat ((b : Int)).toNat : Nat) : Int)
        rw [Int.toNat_natCast, Int.toNat_natCast, hcd, if_neg h3]
      rintro ⟨f3⟩ V5 l5 hf3
      have hf3 : f3 = ((cd n ((a' : Int)).toNat ((b : Int)).toNat : Nat) : Int) := hf3
      rw [Int.toNat_natCast, Int.toNat_natCast] at hf3
      subst hf3
      dsimp only
      have hr5 := BoolsAt.le (View.le_trans l2 (View.le_trans l3 (View.le_trans l4 l5))) hr
      obtain ⟨hb1, x1, hx1, _, hh1, _⟩ := ListAt.get hr5 (t := (b : Int)) (by omega) (z := B b) (by rw [Int.toNat_natCast]; simp [show b < n by omega])
      obtain ⟨hb2, x2, hx2, _, hh2, _⟩ := ListAt.get hr5 (t := (a' : Int)) (by omega) (z := B a') (by rw [Int.toNat_natCast]; simp [show a' < n by omega])
      have w3 : IntKind.i64.wrap ((b : Int) + 1) = (b : Int) + 1 := i64w (by omega) (by omega)
      rw [w3, Int.toNat_natCast, Int.toNat_natCast]
      have hlen : ((List.range n).map (nrS B n gd a' b)).length = n := by simp
      have keep : (B b && !B a' && decide ((cd n a' b : Int) ≤ gd)) = false → (∃ a2 b2 : Nat, (a' : Int) = a2 ∧ (b : Int) + 1 = b2 ∧ a2 < n ∧ b2 ≤ n ∧ Cells 1 boolC V5 o2 ((List.range n).map (nrS B n gd a2 b2))) := by
        intro h
        refine ⟨a', b + 1, rfl, by omega, by omega, by omega, ?_⟩
        rw [← bools_congr (nrS B n gd a' b) _ (fun p _ => nrS_stay h p)]
        exact bools_imp ho2
      refine ⟨hb1, B b, bool_load (by rw [show x1 = _ from hx1] at hh1; rw [Int.toNat_natCast] at hh1; exact hh1), fun k1 => ?_, fun k1 => ?_⟩
      · refine ⟨hb2, B a', bool_load (by rw [show x2 = _ from hx2] at hh2; rw [Int.toNat_natCast] at hh2; exact hh2), fun k2 => ⟨fun k3 => ?_, fun k3 => ?_⟩, fun k2 => ?_⟩
        · have hit : (B b && !B a' && decide ((cd n a' b : Int) ≤ gd)) = true := by rw [k1, k2, k3]; rfl
          refine ⟨⟨by omega, by omega⟩, Cells.room ho2 (by rw [hlen]; omega), ⟨a', b + 1, rfl, by omega, by omega, by omega, ?_⟩, by omega⟩
          have := Cells.set0 (bools_imp (V' := V5) ho2) (i := a') (by rw [hlen]; omega) (y := [.bool true]) rfl (boolC_mk V5 true)
          rw [bools_set _ (nrS B n gd a' (b + 1)) (fun p _ => nrS_hit hit p)] at this
          exact this
        · exact ⟨keep (by rw [k1, k2, k3]; rfl), by omega⟩
        · exact ⟨keep (by rw [k1, k2]; rfl), by omega⟩
      · exact ⟨keep (by rw [k1]; rfl), by omega⟩
    · simp only [decide_eq_false_iff_not] at h2
      have eb : b = n := by omega
      subst eb
      rw [i64w (by omega) (by omega)]
      refine ⟨⟨a' + 1, by omega, by omega, ?_⟩, by omega⟩
      rw [← bools_congr (nrS B b gd a' b) _ (fun p _ => nrS_next B b gd a' p)]
      exact bools_imp ho2
  · simp only [decide_eq_false_iff_not] at h1
    have ea : a = n := by omega
    subst ea
    have e : (List.range a).map (nrS B a gd a 0) = (List.range a).map fun k => nrP B a gd k a :=
      bools_congr _ _ fun p hp => by unfold nrS; rw [if_pos hp]
    rw [e] at ho
    rw [Int.toNat_natCast]
    exact ⟨_, rfl, ListAt.of_made hb (bools_imp ho) (by simp)⟩

/-- The program's search. -/
theorem near_spec {V : View} {p1 p2 p3 : Option Addr} {r : Sl} {B : Nat → Bool} {n k : Nat} {gd : Int} (h1 : V.load p1 = some (.int .i64 gd)) (h2 : V.load p2 = some (.int .i64 (n : Int))) (h3 : V.load p3 = some r.v)
    (hr : BoolsAt V r ((List.range n).map B)) (hk : k < n) (hn : n ≤ 64) (hB : B k = false) :
    CallV Tryz.prog n_transform_Touched_num_Num__1 #[.int .i64 (k : Int), .pointer p1, .pointer p2, .pointer p3] V fun v _ => v = .bool (nrP B n gd k n) := by
  refine transform_Touched_num_Num__1_vc k p1 p2 p3 V _ (fun _ x _ => ∃ d : Nat, x.t6 = d ∧ 1 ≤ d ∧ d ≤ n + 1 ∧ ∀ e : Nat, 1 ≤ e → e < d → B ((k + e) % n) = false ∧ B ((k + n * e - e) % n) = false) (fun _ x _ => (n + 1 - x.t6).toNat)
    ⟨⟨1, rfl, by omega, by omega, fun e he he' => by omega⟩, ?_⟩
  rintro ⟨t⟩ V1 l1 ⟨d, rfl, d1, dn, hno⟩
  dsimp only
  have hm : (if (n : Int) < gd then (n : Int) else gd) ≤ n ∧ (if (n : Int) < gd then (n : Int) else gd) ≤ gd := by split <;> omega
  have hm2 : (if (n : Int) < gd then (n : Int) else gd) = n ∨ (if (n : Int) < gd then (n : Int) else gd) = gd := by split <;> simp
  refine ⟨gd, View.load_le l1 h1, n, View.load_le l1 h2, fun hle => ?_, fun hgt => ?_⟩
  · simp only [decide_eq_true_eq] at hle
    have hd : d ≤ n := by omega
    have hgd : (d : Int) ≤ gd := by omega
    have hnd : n * d ≤ 64 * 64 := Nat.mul_le_mul hn (by omega)
    have hrl : r.len = n := by have := hr.len; simpa using this
    have e1 : Int.tmod (IntKind.i64.wrap ((k : Int) + d)) (n : Int) = (((k + d) % n : Nat) : Int) := by
      rw [i64w (by omega) (by omega)]; rfl
    have e2 : Int.tmod (IntKind.i64.wrap (IntKind.i64.wrap ((k : Int) + IntKind.i64.wrap ((n : Int) * d)) - d)) (n : Int) = (((k + n * d - d) % n : Nat) : Int) := by
      have em : (n : Int) * (d : Int) = ((n * d : Nat) : Int) := by rw [Int.natCast_mul]
      have hge : d ≤ n * d := Nat.le_mul_of_pos_left _ (by omega)
      rw [em, i64w (n := ((n * d : Nat) : Int)) (by omega) (by omega), i64w (n := (k : Int) + ((n * d : Nat) : Int)) (by omega) (by omega)]
      have e3 : (k : Int) + ((n * d : Nat) : Int) - (d : Int) = ((k + n * d - d : Nat) : Int) := by omega
      rw [e3, i64w (by omega) (by omega)]; rfl
    have m1 : (k + d) % n < n := Nat.mod_lt _ (by omega)
    have m2 : (k + n * d - d) % n < n := Nat.mod_lt _ (by omega)
    obtain ⟨hb1, x1, hx1, _, hh1, _⟩ := ListAt.get (BoolsAt.le l1 hr) (t := (((k + d) % n : Nat) : Int)) (by omega) (z := B ((k + d) % n)) (by rw [Int.toNat_natCast]; simp [m1])
    obtain ⟨hb2, x2, hx2, _, hh2, _⟩ := ListAt.get (BoolsAt.le l1 hr) (t := (((k + n * d - d) % n : Nat) : Int)) (by omega) (z := B ((k + n * d - d) % n)) (by rw [Int.toNat_natCast]; simp [m2])
    refine ⟨r, View.load_le l1 h3, n, View.load_le l1 h2, by omega, ?_⟩
    rw [e1]
    refine ⟨hb1, B ((k + d) % n), bool_load (by rw [show x1 = _ from hx1] at hh1; exact hh1), fun k1 => ?_, fun k1 => ⟨r, View.load_le l1 h3, n, View.load_le l1 h2, n, View.load_le l1 h2, by omega, ?_⟩⟩
    · rw [near_found hk hB d1 hd hgd (.inl k1)]
    rw [e2]
    refine ⟨hb2, B ((k + n * d - d) % n), bool_load (by rw [show x2 = _ from hx2] at hh2; exact hh2), fun k2 => ?_, fun k2 => ?_⟩
    · rw [near_found hk hB d1 hd hgd (.inr k2)]
    · rw [i64w (by omega) (by omega)]
      refine ⟨⟨d + 1, by omega, by omega, by omega, fun e he he' => ?_⟩, by omega⟩
      by_cases c : e = d
      · subst c; exact ⟨k1, k2⟩
      · exact hno e he (by omega)
  · simp only [decide_eq_false_iff_not] at hgt
    rw [near_none hk fun e he hg hen => hno e he (by omega)]

def intC (_ : View) (x : List Value) (z : Int) : Prop := x = [.int .i64 z]
def IntsAt (V : View) (s : Sl) (l : List Int) : Prop := ListAt 1 intC V s l
theorem IntsAt.le {V V' : View} (hle : V.le V') {s : Sl} {l : List Int} (h : IntsAt V s l) : IntsAt V' s l := ListAt.le (P := intC) (V := V) (V' := V') (fun _ _ h => h) hle h
theorem ints_imp {V V' : View} {o : List Value} {l : List Int} (h : Cells 1 intC V o l) : Cells 1 intC V' o l := Cells.imp (P := intC) (V := V) (P' := intC) (V' := V') (fun _ _ h => h) h
theorem one_load {V : View} {p : Option Addr} {v : Value} (h : V.has p [v]) : V.load p = some v := bool_load h
theorem known_load {V : View} {b : Nat} {v : Value} (h : V b = some (List.toArray [v])) : V.load (some (Addr.mk b 0 none)) = some v := by simp [View.load, h]
theorem has_one {V : View} {b : Nat} {v : Value} (h : V b = some #[v]) : V.has (some (Addr.mk b 0 none)) [v] := has_block (l := [v]) h

/-- The positions that are touched. -/
def tchA (zs : List Cq) (g : GateV) (gd : Int) : List Int := if gtE g zs.length = 0 then tchL (inG zs.length g.from_.toNat g.count.toNat) zs.length gd zs zs.length else []

theorem Touched_any {V : View} {s : Sl} {zs : List Cq} (g : GateV) (gd : Int) (h : NumsAt V s zs) (hS : ∀ i, i < zs.length → (nth zs i).sz ≤ 2 ^ 40) :
    CallV Tryz.prog n_transform_Touched_num_Num_ #[s.v, g.val, .int .i64 gd] V fun v V' => ∃ r : Sl, v = .tuple #[r.v, .int .i64 (gtE g zs.length)] ∧ IntsAt V' r (tchA zs g gd) := by
  have hl := h.len
  refine transform_Touched_num_Num__vc s g gd V _ (fun _ x V' => ∃ k : Nat, x.t28 = (k : Int) ∧ k ≤ zs.length ∧ ∃ l, LstOk 1 x.t12l x.t12c x.o12 l ∧ x.t12l = (tchL (inG zs.length g.from_.toNat g.count.toNat) zs.length gd zs k).length ∧ Cells 1 intC V' l (tchL (inG zs.length g.from_.toNat g.count.toNat) zs.length gd zs k))
    (fun _ x _ => (zs.length - x.t28).toNat) ?_
  rw [hl]
  refine (transform_valid_any g _).mono fun v V1 l1 hv => ⟨_, hv, fun h1 => ?_, fun h1 => ?_⟩
  · have h1 : gtE g zs.length ≠ 0 := by simpa using h1
    unfold tchA; rw [if_neg h1]
    exact ⟨_, rfl, ListAt.nil⟩
  have h1 : gtE g zs.length = 0 := by simpa using h1
  obtain ⟨c1, c2⟩ := gtE_zero.1 h1
  have hb := lenB_le c1
  unfold tchA; rw [if_pos h1, h1]
  refine (within_spec c2 hb.2).mono fun v V2 l2 ⟨r, hv, hr⟩ => ⟨r, hv, fun b1 V3 l3 hb1 b2 V4 l4 hb2 b3 V5 l5 hb3 => ?_⟩
  have hgl : gList zs.length g.from_.toNat g.count.toNat = (List.range zs.length).map (inG zs.length g.from_.toNat g.count.toNat) := rfl
  rw [hgl] at hr
  generalize inG zs.length g.from_.toNat g.count.toNat = B at hr ⊢
  have hrl : r.len = zs.length := by have := hr.len; simpa using this
  refine ⟨⟨0, rfl, by omega, [], LstOk.nil, rfl, rfl⟩, ?_⟩
  rintro ⟨n, c, t, o⟩ V6 l6 ⟨k, rfl, hk, l, hlo, hn, hin⟩
  dsimp only at hlo hn hin ⊢
  refine ⟨fun hlt => ?_, fun hge b V11 l11 hb11 => ?_⟩
  · simp only [decide_eq_true_eq] at hlt
    have hk' : k < zs.length := by omega
    have w1 : IntKind.i64.wrap ((k : Int) + 1) = (k : Int) + 1 := i64w (by omega) (by omega)
    rw [w1]
    have ld1 : V6.load (some (Addr.mk b1 0 none)) = some (.int .i64 gd) := View.load_le (View.le_trans l4 (View.le_trans l5 l6)) (known_load hb1)
    have ld2 : V6.load (some (Addr.mk b2 0 none)) = some (.int .i64 (zs.length : Int)) := View.load_le (View.le_trans l5 l6) (known_load hb2)
    have ld3 : V6.load (some (Addr.mk b3 0 none)) = some r.v := View.load_le l6 (known_load hb3)
    have hr6 := BoolsAt.le (View.le_trans l3 (View.le_trans l4 (View.le_trans l5 l6))) hr
    have L6 : View.le V V6 := View.le_trans l1 (View.le_trans l2 (View.le_trans l3 (View.le_trans l4 (View.le_trans l5 l6))))
    obtain ⟨hbx, x, hx, _, hh, _⟩ := ListAt.get hr6 (t := (k : Int)) (by omega) (z := B k) (by simp [hk'])
    have stay : ∀ {V' : View}, tchL B zs.length gd zs (k + 1) = tchL B zs.length gd zs k → ∃ k2 : Nat, (k : Int) + 1 = k2 ∧ k2 ≤ zs.length ∧ ∃ l, LstOk 1 n c o l ∧ n = (tchL B zs.length gd zs k2).length ∧ Cells 1 intC V' l (tchL B zs.length gd zs k2) := by
      intro V' e
      refine ⟨k + 1, by omega, by omega, l, hlo, ?_, ?_⟩
      · rw [e]; exact hn
      · rw [e]; exact ints_imp hin
    refine ⟨r, ld3, hbx, B k, bool_load (by rw [show x = _ from hx] at hh; exact hh), fun k1 => ?_, fun k1 => ?_⟩
    · have hBk : B k = false := by simpa using k1
      refine (near_spec ld1 ld2 ld3 hr6 hk' hb.2 hBk).mono fun v V7 l7 hv => ⟨_, hv, fun k2 => ?_, fun k2 => ?_⟩
      · obtain ⟨hb4, x4, hx4, hs4, hn4⟩ := (h.le (View.le_trans L6 l7)).get (t := (k : Int)) (by omega) (by rw [Int.toNat_natCast]; exact hk')
        rw [hl] at hb4
        rw [Int.toNat_natCast] at hn4
        refine ⟨hb4, x4, hx4, hs4, (of_spec (p := 0) (q := 1) (by decide) (by decide) (by decide) (by decide) (by decide)).mono fun v V8 l8 ⟨z, hv, hz⟩ => ⟨z, hv, ?_⟩⟩
        have e0 : (⟨((0 : Int) : Rat) / ((1 : Int) : Rat), ((0 : Int) : Rat) / ((1 : Int) : Rat)⟩ : Cq) = Cq.zero := Cq.ext' (by simp [Rat.div_def]; rfl) (by simp [Rat.div_def]; rfl)
        rw [e0] at hz
        refine (Num_Same_spec (hn4.le l8) hz (hS _ hk') (by have := Cq.sz_zero; omega)).mono fun v V9 l9 hv => ⟨_, hv, fun k3 b4 V10 l10 hf hb4' => ?_, fun k3 => ?_⟩
        · have k3 : nth zs k ≠ Cq.zero := by simpa using k3
          have hlen := tchL_length B zs.length gd zs k
          refine ⟨l, _, hlo, has_one hb4', rfl, ?_, ?_, ?_, fun c1 l3 hl3 => ?_⟩
          · intro v hv; simp at hv; subst hv; rfl
          · simp only [maxLen]; omega
          · omega
          · refine ⟨⟨k + 1, by omega, by omega, _, hl3, ?_, ?_⟩, by omega⟩
            · rw [tchL_yes k2 k3]; simp; omega
            · rw [tchL_yes k2 k3]; exact (ints_imp hin).append (Cells.one rfl rfl)
        · have k3 : nth zs k = Cq.zero := by simpa using k3
          exact ⟨stay (tchL_no2 k3), by omega⟩
      · exact ⟨stay (tchL_no1 k2), by omega⟩
    · have hBk : B k = true := by simpa using k1
      have : nrP B zs.length gd k zs.length = false := by
        cases e : nrP B zs.length gd k zs.length with
        | false => rfl
        | true => obtain ⟨_, _, _, h4, _⟩ := nrP_true.1 e; rw [hBk] at h4; simp at h4
      exact ⟨stay (tchL_no1 this), by omega⟩
  · simp only [decide_eq_false_iff_not] at hge
    have hk' : k = zs.length := by omega
    subst hk'
    exact ⟨_, rfl, ListAt.of_lst hlo hb11 (ints_imp hin) hn⟩

theorem refTouched_any {V : View} {s : Sl} {zs : List Cq} (g : GateV) (gd : Int) (h : QsAt V s zs) (hS : ∀ i, i < zs.length → (nth zs i).sz ≤ 2 ^ 40) :
    CallV Tryz.prog n_waveportref07_Touched #[s.v, g.val, .int .i64 gd] V fun v V' => ∃ r : Sl, v = .tuple #[r.v, .int .i64 (gtE g zs.length)] ∧ IntsAt V' r (tchA zs g gd) := by
  have hl := h.len
  refine waveportref07_Touched_vc s g gd V _ (fun _ x V' => ∃ k : Nat, x.t10 = (k : Int) ∧ k ≤ zs.length ∧ ∃ l, LstOk 1 x.t9l x.t9c x.o25 l ∧ x.t9l = (tchL (inG zs.length g.from_.toNat g.count.toNat) zs.length gd zs k).length ∧ Cells 1 intC V' l (tchL (inG zs.length g.from_.toNat g.count.toNat) zs.length gd zs k))
    (fun _ x _ => (zs.length - x.t10).toNat) ?_
  rw [hl]
  refine (Length_spec _).mono fun v V1 l1 hv => ⟨_, hv, fun h1 => ?_, fun h1 => ?_⟩
  · rw [Int.toNat_natCast] at h1
    have h1 : lenB zs.length = false := by simpa using h1
    have e : gtE g zs.length = 4 := by unfold gtE; rw [Int.toNat_natCast, h1]; rfl
    refine ⟨_, by rw [e], ?_⟩
    unfold tchA; rw [e, if_neg (by decide)]; exact ListAt.nil
  rw [Int.toNat_natCast] at h1
  have h1 : lenB zs.length = true := by simpa using h1
  have hb := lenB_le h1
  refine (Allowed_spec g _).mono fun v V2 l2 hv => ⟨_, hv, fun h2 => ?_, fun h2 => ?_⟩
  · have h2 : ¬ gateOk g zs.length := by simpa using h2
    have e : gtE g zs.length = 1 := by unfold gtE; rw [Int.toNat_natCast, if_pos h1, if_neg h2]
    refine ⟨_, by rw [e], ?_⟩
    unfold tchA; rw [e, if_neg (by decide)]; exact ListAt.nil
  have h2 : gateOk g zs.length := by simpa using h2
  have e : gtE g zs.length = 0 := gtE_zero.2 ⟨h1, h2⟩
  unfold tchA
  rw [e, if_pos rfl]
  refine (Near_spec h2 hb.2).mono fun v V3 l3 ⟨r, hv, hr⟩ => ⟨r, hv, ?_⟩
  generalize inG zs.length g.from_.toNat g.count.toNat = B at hr ⊢
  have hrl : r.len = zs.length := by have := hr.len; simpa using this
  refine ⟨⟨0, rfl, by omega, [], LstOk.nil, rfl, rfl⟩, ?_⟩
  rintro ⟨n, c, t, o⟩ V4 l4 ⟨k, rfl, hk, l, hlo, hn, hin⟩
  dsimp only at hlo hn hin ⊢
  refine ⟨fun hlt => ?_, fun hge b V8 l8 hb8 => ?_⟩
  · simp only [decide_eq_true_eq] at hlt
    have hk' : k < zs.length := by omega
    have w1 : IntKind.i64.wrap ((k : Int) + 1) = (k : Int) + 1 := i64w (by omega) (by omega)
    rw [w1]
    have L4 : View.le V V4 := View.le_trans l1 (View.le_trans l2 (View.le_trans l3 l4))
    obtain ⟨hbx, x, hx, _, hh, _⟩ := ListAt.get (BoolsAt.le l4 hr) (t := (k : Int)) (by omega) (z := nrP B zs.length gd k zs.length) (by simp [hk'])
    have stay : ∀ {V' : View}, tchL B zs.length gd zs (k + 1) = tchL B zs.length gd zs k → ∃ k2 : Nat, (k : Int) + 1 = k2 ∧ k2 ≤ zs.length ∧ ∃ l, LstOk 1 n c o l ∧ n = (tchL B zs.length gd zs k2).length ∧ Cells 1 intC V' l (tchL B zs.length gd zs k2) := by
      intro V' e
      refine ⟨k + 1, by omega, by omega, l, hlo, ?_, ?_⟩
      · rw [e]; exact hn
      · rw [e]; exact ints_imp hin
    refine ⟨hbx, _, bool_load (by rw [show x = _ from hx] at hh; exact hh), fun k2 => ?_, fun k2 => ?_⟩
    · obtain ⟨hb4, x4, hx4, hs4, hn4⟩ := (h.le L4).get (t := (k : Int)) (by omega) (by rw [Int.toNat_natCast]; exact hk')
      rw [hl] at hb4
      rw [Int.toNat_natCast] at hn4
      refine ⟨hb4, x4, hx4, hs4, wholeQ_zero.mono fun v V5 l5 ⟨z, hv, hz⟩ => ⟨z, hv, ?_⟩⟩
      refine (ref1_Same_spec (hn4.le l5) hz (hS _ hk') (by have := Cq.sz_zero; omega)).mono fun v V6 l6 hv => ⟨_, hv, fun k3 b1 V7 l7 hf hb1 => ?_, fun k3 => ?_⟩
      · have k3 : nth zs k ≠ Cq.zero := by simpa using k3
        have hlen := tchL_length B zs.length gd zs k
        refine ⟨l, _, hlo, has_one hb1, rfl, ?_, ?_, ?_, fun c1 l3 hl3 => ?_⟩
        · intro v hv; simp at hv; subst hv; rfl
        · simp only [maxLen]; omega
        · omega
        · refine ⟨⟨k + 1, by omega, by omega, _, hl3, ?_, ?_⟩, by omega⟩
          · rw [tchL_yes k2 k3]; simp; omega
          · rw [tchL_yes k2 k3]; exact (ints_imp hin).append (Cells.one rfl rfl)
      · have k3 : nth zs k = Cq.zero := by simpa using k3
        exact ⟨stay (tchL_no2 k3), by omega⟩
    · exact ⟨stay (tchL_no1 k2), by omega⟩
  · simp only [decide_eq_false_iff_not] at hge
    have hk' : k = zs.length := by omega
    subst hk'
    obtain ⟨o', ho'⟩ := hlo.split
    refine ⟨_, rfl, ListAt.of_block (o := l) (o' := o') (b := b) (fun hne => ?_) (ints_imp hin) hn hlo.le (fun _ => rfl)⟩
    rw [← ho'] at hne ⊢
    exact hb8 hne
end Go.Proofs.YtcapadojlaojkaaGreat

namespace Go.Proofs.YtcapadojlaojkaaGreat
open Go Go.Vc Go.Proofs

theorem neAt_gate (g : GateV) : Go.Vc.NeAt Tryz.prog TN_api_Gate g.val g.val false := by
  intro w
  have hf : Tryz.prog.fieldsOf TN_api_Gate = #[{ name := "From", type := 3, offset := 0, embedded := false, tag := "", pkgPath := "", byteOffset := 0 }, { name := "Count", type := 3, offset := 1, embedded := false, tag := "", pkgPath := "", byteOffset := 8 }] := by kernel_rfl
  have hu : Tryz.prog.underlying TN_api_Gate = some (.struct (Tryz.prog.fieldsOf TN_api_Gate)) := by kernel_rfl
  have hi : Tryz.prog.underlying 3 = some (.int .i64) := by kernel_rfl
  have hs : Tryz.prog.stoodInHeld TN_api_Gate = false := by kernel_rfl
  have hz : sizeQ Tryz.prog 3 = some 1 := by kernel_rfl
  have ha : aggOf Tryz.prog 3 = some false := by kernel_rfl
  show (binOp .neq TN_api_Gate (.agg #[.int .i64 g.from_, .int .i64 g.count]) (.agg #[.int .i64 g.from_, .int .i64 g.count])).run _ w = _
  rw [run_neq_struct, run_equalIn_agg w 9999 _ _ _ hu hs, hf]
  have hp : ∀ (cs : Array Value) (off : Nat) (n : Int), cs[off]? = some (.int .i64 n) → (part 3 cs off).run Tryz.prog w = .ok (.int .i64 n) w := by
    intro cs off n h
    simp [part, run_aggOf ha, run_sizeQ hz, h]
  simp only [Op.eqFields, Sem.run_bind, Sem.run_ite]
  rw [if_pos (by decide)]
  rw [hp _ 0 g.from_ (by simp)]
  simp only [Result.andThen_ok]
  rw [hp _ 0 g.from_ (by simp)]
  simp only [Result.andThen_ok, run_equalIn_int w _ _ _ _ _ _ hi, beq_self_eq_true, Bool.not_true, Bool.false_eq_true, if_false]
  rw [if_pos (by decide)]
  rw [hp _ 1 g.count (by simp)]
  simp only [Result.andThen_ok]
  rw [hp _ 1 g.count (by simp)]
  simp only [Result.andThen_ok, run_equalIn_int w _ _ _ _ _ _ hi, beq_self_eq_true, Bool.not_true, Bool.false_eq_true, if_false, Sem.run_pure, Bool.not_true]

/-- Both gated spectra, or the same error. -/
theorem gated_pair {zs ws : List Cq} (g : GateV) (hz : zs.length ≤ 16) (hsz : ∀ i, i < zs.length → (nth zs i).sz ≤ 5) (hsw : ∀ i, i < ws.length → (nth ws i).sz ≤ 5) :
    ∃ (e : Int) (L : List Cq), (L.length ≤ 2 ^ 40 ∧ ∀ i, i < L.length → (nth L i).sz ≤ 2 ^ 40) ∧
      ∀ {V : View} {x w y v : Sl}, (NumsAt V x zs → NumsAt V w ws → CallV Tryz.prog n_transform_Gated_num_Num_ #[x.v, w.v, g.val] V fun u V' => ∃ r : Sl, u = .tuple #[r.v, .int .i64 e] ∧ NumsAt V' r L) ∧
        (QsAt V y zs → QsAt V v ws → CallV Tryz.prog n_waveportref07_Gated #[y.v, v.v, g.val] V fun u V' => ∃ r : Sl, u = .tuple #[r.v, .int .i64 e] ∧ QsAt V' r L) := by
  cases hf : fitB zs ws with
  | false =>
    refine ⟨4, [], ⟨by simp, fun i hi => by simp at hi⟩, fun {V x w y v} => ⟨fun h1 h2 => ?_, fun h1 h2 => ?_⟩⟩
    · exact transform_Gated_num_Num__vc x w g V _ ((FastBack_bad h1 h2 hf).mono fun v V1 l1 ⟨u, hv, hu⟩ => ⟨u, 4, hv, fun _ => ⟨_, rfl, ListAt.nil⟩, fun h => absurd h (by simp)⟩)
    · exact waveportref07_Gated_vc y v g V _ ((refFastBack_bad h1 h2 hf).mono fun v V1 l1 ⟨u, hv, hu⟩ => ⟨u, 4, hv, fun _ => ⟨_, rfl, ListAt.nil⟩, fun h => absurd h (by simp)⟩)
  | true =>
    unfold fitB at hf
    simp only [Bool.and_eq_true, decide_eq_true_eq] at hf
    obtain ⟨hl, he⟩ := hf
    obtain ⟨m, hm, h2⟩ := lenB_two hl
    have hzm : zs.length = 2 ^ m := by omega
    have hpow : 2 ^ m ≤ 16 := by omega
    have hSm : ∀ i, i < 2 ^ m → (nth zs i).sz ≤ 5 := fun i hi => hsz i (by omega)
    have hTm : ∀ i, i < 2 ^ m → (nth ws i).sz ≤ 5 := fun i hi => hsw i (by omega)
    have hcl : (conjF ws).length = 2 ^ m := by rw [conjF_length, h2]
    have hcT : ∀ i, i < 2 ^ m → (nth (conjF ws) i).sz ≤ 5 := by
      intro i hi; exact conjF_sz ws 5 hsw i (by omega)
    have f4 := stageF_sz m zs (conjF ws) 5 5 hzm hcl hSm hcT
    have f4l := stageF_length m zs (conjF ws)
    have hmul : 2 ^ m * (5 + 5 + 2) ≤ 16 * (5 + 5 + 2) := Nat.mul_le_mul_right _ hpow
    have f5 := sharesF_sz (stageF m zs (conjF ws)) (16 * (5 + 5 + 2)) (by omega) (by rw [f4l]; intro j hj; have := f4 j hj; omega)
    rw [f4l] at f5
    have f5l : (sharesF (stageF m zs (conjF ws))).length = 2 ^ m := by rw [sharesF_length, f4l]
    by_cases c : gtE g ((2 ^ m : Nat) : Int) = 0
    · have hcut : cutL (sharesF (stageF m zs (conjF ws))) g = cutF (sharesF (stageF m zs (conjF ws))) (inG (2 ^ m) g.from_.toNat g.count.toNat) := by
        unfold cutL; rw [f5l, if_pos c]
      have f6 := cutF_sz (sharesF (stageF m zs (conjF ws))) (inG (2 ^ m) g.from_.toNat g.count.toNat) 300 (by omega) (by rw [f5l]; intro i hi; have := f5 i hi; omega)
      rw [f5l] at f6
      have f6l : (cutF (sharesF (stageF m zs (conjF ws))) (inG (2 ^ m) g.from_.toNat g.count.toNat)).length = 2 ^ m := by rw [cutF_length, f5l]
      have f7 := stageF_sz m (cutF (sharesF (stageF m zs (conjF ws))) (inG (2 ^ m) g.from_.toNat g.count.toNat)) ws 300 5 f6l h2 f6 hTm
      have hmul2 : 2 ^ m * (300 + 5 + 2) ≤ 16 * (300 + 5 + 2) := Nat.mul_le_mul_right _ hpow
      refine ⟨0, stageF m (cutF (sharesF (stageF m zs (conjF ws))) (inG (2 ^ m) g.from_.toNat g.count.toNat)) ws, ⟨by rw [stageF_length]; omega, by rw [stageF_length]; intro i hi; have := f7 i hi; omega⟩, fun {V x w y v} => ⟨fun h1 h3 => ?_, fun h1 h3 => ?_⟩⟩
      · refine transform_Gated_num_Num__vc x w g V _ ((FastBack_spec 5 5 hm hzm h2 h1 h3 hSm hTm (by decide)).mono fun v V1 l1 ⟨u, hv, hu⟩ => ⟨u, 0, hv, fun h => absurd h (by simp), fun _ => ?_⟩)
        refine (Cut_any g hu).mono fun v V2 l2 ⟨u2, hv, hu2⟩ => ⟨u2, 0, by rw [hv, f5l, c], fun h => absurd h (by simp), fun _ => ?_⟩
        rw [hcut] at hu2
        exact (transform_Fast_spec 300 5 hm f6l h2 hu2 (h3.le (View.le_trans l1 l2)) f6 hTm (by omega)).mono fun v V3 l3 ⟨r, hv, hr⟩ => ⟨r, 0, hv, r, rfl, hr⟩
      · refine waveportref07_Gated_vc y v g V _ ((refFastBack_spec 5 5 hm hzm h2 h1 h3 hSm hTm (by decide)).mono fun v V1 l1 ⟨u, hv, hu⟩ => ⟨u, 0, hv, fun h => absurd h (by simp), fun _ => ?_⟩)
        refine (refCut_any g hu).mono fun v V2 l2 ⟨u2, hv, hu2⟩ => ⟨u2, 0, by rw [hv, f5l, c], fun h => absurd h (by simp), fun _ => ?_⟩
        rw [hcut] at hu2
        exact (refFast_spec 300 5 hm f6l h2 hu2 (h3.le (View.le_trans l1 l2)) f6 hTm (by omega)).mono fun v V3 l3 ⟨r, hv, hr⟩ => ⟨r, 0, hv, r, rfl, hr⟩
    · refine ⟨gtE g ((2 ^ m : Nat) : Int), [], ⟨by simp, fun i hi => by simp at hi⟩, fun {V x w y v} => ⟨fun h1 h3 => ?_, fun h1 h3 => ?_⟩⟩
      · refine transform_Gated_num_Num__vc x w g V _ ((FastBack_spec 5 5 hm hzm h2 h1 h3 hSm hTm (by decide)).mono fun v V1 l1 ⟨u, hv, hu⟩ => ⟨u, 0, hv, fun h => absurd h (by simp), fun _ => ?_⟩)
        refine (Cut_any g hu).mono fun v V2 l2 ⟨u2, hv, hu2⟩ => ⟨u2, gtE g ((2 ^ m : Nat) : Int), by rw [hv, f5l], fun _ => ⟨_, rfl, ListAt.nil⟩, fun h => absurd (by simpa using h) c⟩
      · refine waveportref07_Gated_vc y v g V _ ((refFastBack_spec 5 5 hm hzm h2 h1 h3 hSm hTm (by decide)).mono fun v V1 l1 ⟨u, hv, hu⟩ => ⟨u, 0, hv, fun h => absurd h (by simp), fun _ => ?_⟩)
        refine (refCut_any g hu).mono fun v V2 l2 ⟨u2, hv, hu2⟩ => ⟨u2, gtE g ((2 ^ m : Nat) : Int), by rw [hv, f5l], fun _ => ⟨_, rfl, ListAt.nil⟩, fun h => absurd (by simpa using h) c⟩

theorem cutL_sz {zs : List Cq} {g : GateV} (hz : zs.length ≤ 20) (hsz : ∀ i, i < zs.length → (nth zs i).sz ≤ 5) : (cutL zs g).length ≤ 2 ^ 40 ∧ ∀ i, i < (cutL zs g).length → (nth (cutL zs g) i).sz ≤ 2 ^ 40 := by
  unfold cutL
  split
  · rw [cutF_length]
    refine ⟨by omega, fun i hi => ?_⟩
    have := cutF_sz zs (inG zs.length g.from_.toNat g.count.toNat) 5 (by omega) hsz i hi
    omega
  · exact ⟨by simp, fun i hi => by simp at hi⟩

/-- The call of TransformGates returns true. -/
theorem TransformGates_spec {V : View} {s o : Sl} {rs os : List RatV} {g : GateV} {gd n : Int} (h : RatsAt V s rs) (_hr : rs.length < 2 ^ 64) (ho : RatsAt V o os) (_hr2 : os.length < 2 ^ 64) :
    CallV Tryz.prog n_waveportlaw07_TransformGates #[s.v, o.v, g.val, .int .i64 gd, .int .i64 n] V fun v _ => v = .bool true := by
  have hl := h.len
  have hol := ho.len
  refine waveportlaw07_TransformGates_vc s o g gd n V _ (fun _ _ _ => rs.length ≤ 16 ∧ os.length ≤ 16)
    (fun c _ V' => RatsAt V' c.t0 (rs.map smallR) ∧ RatsAt V' c.t1 (os.map smallR))
    (fun c _ V' => ∃ l, IntsAt V' c.t19 l ∧ IntsAt V' c.t21 l ∧ l.length ≤ 64)
    (fun c x V' => ∃ l, IntsAt V' c.t19 l ∧ IntsAt V' c.t21 l ∧ l.length ≤ 64 ∧ 0 ≤ x.t129 ∧ x.t129 ≤ l.length ∧ c.t128 = l.length) (fun c x _ => (c.t128 - x.t129).toNat)
    ⟨⟨fun _ => awake_spec.mono fun v V1 _ hv => ⟨_, hv, rfl⟩, fun g1 => ⟨fun _ => awake_spec.mono fun v V1 _ hv => ⟨_, hv, rfl⟩, fun g2 => ?_⟩⟩, ?_⟩
  · rw [hl] at g1
    rw [hol] at g2
    simp only [decide_eq_false_iff_not] at g1 g2
    exact ⟨by omega, by omega⟩
  rintro _ W0 m0 ⟨g1, g2⟩
  have t1 : ∀ r ∈ rs.map smallR, tame r := by intro r hr; obtain ⟨a, _, rfl⟩ := List.mem_map.1 hr; exact smallR_tame a
  have t2 : ∀ r ∈ os.map smallR, tame r := by intro r hr; obtain ⟨a, _, rfl⟩ := List.mem_map.1 hr; exact smallR_tame a
  have z1 : ((rs.map smallR).map ratQ).length ≤ 16 := by simp; omega
  have sz : ∀ (l : List RatV), (∀ r ∈ l, tame r) → ∀ i, i < (l.map ratQ).length → (nth (l.map ratQ) i).sz ≤ 5 := by
    intro l hl i hi
    have hi : i < l.length := by simpa using hi
    have e : nth (l.map ratQ) i = ratQ l[i] := by simp [nth, List.getD, hi]
    rw [e]; exact tame_sz (hl _ (List.getElem_mem _))
  have s1 := sz _ t1
  have s2 := sz _ t2
  have s140 : ∀ i, i < ((rs.map smallR).map ratQ).length → (nth ((rs.map smallR).map ratQ) i).sz ≤ 2 ^ 40 := fun i hi => by have := s1 i hi; omega
  obtain ⟨e, L, hL, hcalls⟩ := gated_pair g z1 s1 s2
  have hcz := cutL_sz (g := g) (by omega : ((rs.map smallR).map ratQ).length ≤ 20) s1
  have n1 : (rs.map smallR).length ≤ 2 ^ 32 := by simp; omega
  have n2 : (os.map smallR).length ≤ 2 ^ 32 := by simp; omega
  have k1 : ∀ r ∈ rs.map smallR, ratI r := fun r hr => (t1 r hr).ok
  have k2 : ∀ r ∈ os.map smallR, ratI r := fun r hr => (t2 r hr).ok
  refine (plain_spec (h.le m0) (by omega)).mono fun v V1 l1 ⟨a, hv, ha⟩ => ⟨a, hv, ?_⟩
  refine (plain_spec (ho.le (View.le_trans m0 l1)) (by omega)).mono fun v V2 l2 ⟨b, hv, hb⟩ => ⟨b, hv, ?_⟩
  have ha2 := ha.le l2
  clear ha l1 m0
  refine (law1_List_spec ha2 k1 n1).mono fun v V3 l3 ⟨x, hv, hx⟩ => ⟨x, hv, ?_⟩
  refine (Cut_any g hx).mono fun v V4 l4 ⟨p, hv, hp⟩ => ⟨p, _, hv, ?_⟩
  refine (refList_spec (ha2.le (View.le_trans l3 l4)) k1 n1).mono fun v V5 l5 ⟨y, hv, hy⟩ => ⟨y, hv, ?_⟩
  refine (refCut_any g hy).mono fun v V6 l6 ⟨q, hv, hq⟩ => ⟨q, _, hv, ?_⟩
  refine (answers_spec (hp.le (View.le_trans l5 l6)) hq hcz.1 hcz.2).mono fun v V7 l7 hv => ⟨_, hv, fun h => absurd h (by simp), fun _ => ?_⟩
  refine (Rest_any g n).mono fun v V8 l8 hv => ⟨_, _, hv, ?_⟩
  refine (refRest_any g n).mono fun v V9 l9 hv => ⟨_, _, hv, ⟨false, neAt_gate _, fun h => absurd h (by simp), fun _ => ⟨fun h => absurd h (by simp), fun _ => ?_⟩⟩, ?_⟩
  · have M := View.le_trans l3 (View.le_trans l4 (View.le_trans l5 (View.le_trans l6 (View.le_trans l7 (View.le_trans l8 l9)))))
    exact ⟨ha2.le M, hb.le M⟩
  rintro _ W1 m1 ⟨hA, hB⟩
  have hA : RatsAt W1 a (rs.map smallR) := hA
  have hB : RatsAt W1 b (os.map smallR) := hB
  refine (law1_List_spec hA k1 n1).mono fun v X1 x1 ⟨x, hv, hx⟩ => ⟨x, hv, ?_⟩
  refine (law1_List_spec (hB.le x1) k2 n2).mono fun v X2 x2 ⟨w, hv, hw⟩ => ⟨w, hv, ?_⟩
  refine ((hcalls (x := x) (w := w) (y := x) (v := x)).1 (hx.le x2) hw).mono fun v X3 x3 ⟨c, hv, hc⟩ => ⟨c, _, hv, ?_⟩
  have M3 := View.le_trans x1 (View.le_trans x2 x3)
  refine (refList_spec (hA.le M3) k1 n1).mono fun v X4 x4 ⟨y, hv, hy⟩ => ⟨y, hv, ?_⟩
  refine (refList_spec (hB.le (View.le_trans M3 x4)) k2 n2).mono fun v X5 x5 ⟨u, hv, hu⟩ => ⟨u, hv, ?_⟩
  refine ((hcalls (x := x) (w := w) (y := y) (v := u)).2 (hy.le x5) hu).mono fun v X6 x6 ⟨d, hv, hd⟩ => ⟨d, _, hv, ?_⟩
  refine (answers_spec (hc.le (View.le_trans x4 (View.le_trans x5 x6))) hd hL.1 hL.2).mono fun v X7 x7 hv => ⟨_, hv, fun h => absurd h (by simp), fun _ => ?_⟩
  have M7 := View.le_trans M3 (View.le_trans x4 (View.le_trans x5 (View.le_trans x6 x7)))
  refine (law1_List_spec (hA.le M7) k1 n1).mono fun v X8 x8 ⟨x', hv, hx'⟩ => ⟨x', hv, ?_⟩
  refine (Touched_any g gd hx' s140).mono fun v X9 x9 ⟨i1, hv, hi1⟩ => ⟨i1, _, hv, ?_⟩
  refine (refList_spec (hA.le (View.le_trans M7 (View.le_trans x8 x9))) k1 n1).mono fun v X10 x10 ⟨y', hv, hy'⟩ => ⟨y', hv, ?_⟩
  refine (refTouched_any g gd hy' s140).mono fun v X11 x11 ⟨i2, hv, hi2⟩ => ⟨i2, _, hv, ⟨fun h => absurd h (by simp), fun _ => ⟨fun h => ?_, fun _ => ⟨_, hi1.le (View.le_trans x10 x11), hi2, ?_⟩⟩⟩, ?_⟩
  · exfalso; rw [hi1.len, hi2.len] at h; simp at h
  · unfold tchA; split
    · exact Nat.le_trans (tchL_length _ _ _ _ _) (by omega)
    · simp
  rintro _ W2 m2 ⟨l, hi, hj, hll⟩
  have hi : IntsAt W2 i1 l := hi
  have hj : IntsAt W2 i2 l := hj
  have il := hi.len
  have jl := hj.len
  refine ⟨⟨l, hi, hj, hll, Int.le_refl 0, by show (0 : Int) ≤ l.length; omega, by show (i1.len : Int) = l.length; omega⟩, ?_⟩
  rintro ⟨t⟩ W3 m3 ⟨l', hi', hj', hll', t0, tl, tc⟩
  have hi' : IntsAt W3 i1 l' := hi'
  have hj' : IntsAt W3 i2 l' := hj'
  have tl : t ≤ l'.length := tl
  have t0 : 0 ≤ t := t0
  have il' := hi'.len
  have jl' := hj'.len
  dsimp only
  refine ⟨fun hlt => ?_, fun _ => awake_spec.mono fun v V1 _ hv => ⟨_, hv, rfl⟩⟩
  simp only [decide_eq_true_eq] at hlt
  have hk : t.toNat < l'.length := by omega
  obtain ⟨b1, c1, e1, _, f1, _⟩ := ListAt.get hi' t0 (z := l'[t.toNat]) (by simp [hk])
  obtain ⟨b2, c2, e2, _, f2, _⟩ := ListAt.get hj' t0 (z := l'[t.toNat]) (by simp [hk])
  refine ⟨b1, _, one_load (by rw [show c1 = _ from e1] at f1; exact f1), b2, _, one_load (by rw [show c2 = _ from e2] at f2; exact f2), fun h => absurd h (by simp), fun _ => ?_⟩
  rw [i64w (by omega) (by omega)]
  exact ⟨⟨l', hi', hj', hll', by show 0 ≤ t + 1; omega, by show t + 1 ≤ l'.length; omega, tc⟩, by show ((i1.len : Int) - (t + 1)).toNat < ((i1.len : Int) - t).toNat; omega⟩
end Go.Proofs.YtcapadojlaojkaaGreat
