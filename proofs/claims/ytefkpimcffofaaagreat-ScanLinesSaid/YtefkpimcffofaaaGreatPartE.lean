/- Part. -/
import Derived.Test.YtefkpimcffofaaaGreatPartD
import Derived.Laws.StructEq
namespace Go.Proofs.YtefkpimcffofaaaGreat
open Go Go.Vc Go.Proofs
open Go.Proofs.Tryz (prog)
open Go.IntKind (i64 u64 u32 u8)
set_option maxHeartbeats 4000000 in
theorem j05 {V : View} {s t : Sl} {a b : Nat} (hs : E00 V s a) (ht : E00 V t b) (ha : wn a ≤ 2 ^ 43) (hb0 : b ≠ 0) :
 a00 prog o09 #[s.v, t.v] V fun v V' => ∃ q r : Sl, v = .tuple #[q.v, r.v] ∧ E00 V' q (a / b) ∧ E00 V' r (a % b) := by
 have hsl := hs.len
 have htl := ht.len
 obtain ⟨sh, hsh⟩ : ∃ sh, sh = 32 - bl ((dig b).getD (wn b - 1) 0) := ⟨_, rfl⟩
 obtain ⟨hsh1, hwv, hlo⟩ := J0o hb0 hsh
 obtain ⟨X, hX⟩ : ∃ X, X = a * 2 ^ sh := ⟨_, rfl⟩
 obtain ⟨vN, hvN⟩ : ∃ v, v = b * 2 ^ sh := ⟨_, rfl⟩
 rw [← hvN] at hwv hlo
 obtain ⟨m, hm⟩ : ∃ m, m = s.len + 1 := ⟨_, rfl⟩
 obtain ⟨n, hn⟩ : ∃ n, n = t.len := ⟨_, rfl⟩
 have hna : wn a = s.len := hsl.symm
 have hnb : wn b = n := by rw [hn]; exact htl.symm
 have hal := U0d a
 rw [hna] at ha hal
 rw [hnb] at hwv hlo
 have hcmp := Z05 hs ht (by omega)
 obtain ⟨v1, hv1⟩ : ∃ v1, v1 = (dig vN).getD (n - 1) 0 := ⟨_, rfl⟩
 obtain ⟨v2, hv2⟩ : ∃ v2, v2 = (dig vN).getD (n - 2) 0 := ⟨_, rfl⟩
 refine X0h s t V _
  (fun c x V' => ∃ (v : Sl) (j : Nat) (u qd : List Nat), c = M01.mk (sh : Nat) v (n : Nat) (m - n) (m - n) ∧ E00 V' v vN ∧ x = W01.mk ((j : Int) - 1) (wv u) (wv qd) ∧ DivI X vN n m j u qd)
  (fun _ x _ => (x.t13 + 1).toNat)
  (fun c x _ => ∃ (v : Sl) (j g : Nat) (u qd : List Nat), c = C01.mk (sh : Nat) v (n : Nat) (m - n) (m - n) (j : Nat) (wv u) (wv qd) ∧ x = X01.mk (g : Nat) ∧ g < 4294967296 ∧ seg u j (n + 1) / vN ≤ g ∧ (g - 1) * vN ≤ seg u j (n + 1))
  (fun c x _ => ∃ (v : Sl) (j g r : Nat) (u qd : List Nat), c = A01.mk (sh : Nat) v (n : Nat) (m - n) (m - n) (j : Nat) (wv u) (wv qd) ∧ x = D01.mk (g : Nat) (r : Nat) ∧ r < 4294967296 ∧ g * v1 + r = u.getD (j + n) 0 * 4294967296 + u.getD (j + n - 1) 0 ∧
    seg u j (n + 1) / vN ≤ g)
  (fun _ x _ => x.t15.toNat)
  (fun c x _ => ∃ (v : Sl) (j g i cr bo : Nat) (u qd u0 : List Nat), c = Y01.mk (sh : Nat) v (n : Nat) (m - n) (m - n) (j : Nat) (g : Nat) ∧ x = e02.mk (bo : Nat) (cr : Nat) (i : Nat) (wv u) (wv qd) ∧ n0m X vN n m j g i cr bo u qd u0)
  (fun _ x _ => (n - x.t19).toNat)
  (fun c x _ => ∃ (v : Sl) (j g k cr : Nat) (u qd u0 l' : List Nat), c = Z01.mk (sh : Nat) v (n : Nat) (m - n) (m - n) (j : Nat) ((g - 1 : Nat) : Int) ∧ x = f02.mk (cr : Nat) (k : Nat) (wv u) (wv qd) ∧ 0 < g ∧ w0k X vN n m j g k cr u qd u0 l')
  (fun _ x _ => (n - x.t23).toNat)
  (hcmp.mono fun v V1 l1 hv => ⟨_, hv, fun hlt => ?_, fun hge => ⟨fun h1 => ?_, fun h2 => ?_⟩⟩)
 · -- a below b
   have hlt : a < b := by
    rcases Nat.lt_or_ge a b with h | h
    · exact h
    · exfalso; revert hlt; rw [if_neg (by omega)]; split <;> simp
   exact ⟨_, _, rfl, by rw [Nat.div_eq_of_lt hlt]; exact E00.zero V1, by rw [Nat.mod_eq_of_lt hlt]; exact hs.le l1⟩
 · -- one word
   have h1 : n = 1 := by have : (t.len : Int) = 1 := (by simpa using h1); omega
   have hb1 : b < 4294967296 := by have := U0d b; rw [hnb, h1] at this; simpa using this
   have hd : (dig b).getD 0 0 = b := by rw [c0g]; simp; omega
   have hg := (ht.le l1).get (i := 0) (by omega) (by omega)
   simp only [Int.toNat_zero, hd] at hg
   refine ⟨⟨by omega, by omega, ht.isSome (by omega)⟩, _, hg, ?_⟩
   refine (l0a (hs.le l1) (by omega) (by omega) hb1).mono fun v V2 l2 ⟨q, hv, hq⟩ => ⟨q, _, hv, ?_⟩
   have hmod : a % b < b := Nat.mod_lt _ (by omega)
   rw [u64w (by omega) (by omega)]
   refine (M09 (by omega) (by omega)).mono fun v V3 l3 ⟨r, hv, hr⟩ => ⟨r, hv, q, r, rfl, hq.le l3, ?_⟩
   rw [Int.toNat_natCast] at hr; exact hr
 -- many words
 have hab : b ≤ a := by
  rcases Nat.lt_or_ge a b with h | h
  · exfalso; revert hge; rw [if_pos h]; simp
  · exact h
 have hnm : n ≤ s.len := by rw [← hna, ← hnb]; exact w0a hab
 have hn0 : n ≠ 0 := by rw [← hnb]; intro e; exact hb0 (I05.1 e)
 have hn2 : 2 ≤ n := by have : ¬ (t.len : Int) = 1 := (by simpa using h2); omega
 have E2 : i64.wrap ((s.len : Int) + 1) = (m : Nat) := by rw [i64w (by omega) (by omega)]; omega
 have E3 : i64.wrap ((m : Int) - (n : Int)) = ((m - n : Nat) : Int) := by rw [i64w (by omega) (by omega)]; omega
 have E1 : i64.wrap ((n : Int) - 1) = ((n - 1 : Nat) : Int) := by rw [i64w (by omega) (by omega)]; omega
 have E4 : i64.wrap ((n : Int) - 2) = ((n - 2 : Nat) : Int) := by rw [i64w (by omega) (by omega)]; omega
 have E5 : i64.wrap (((m - n : Nat) : Int) - 1) = ((m - n : Nat) : Int) - 1 := by rw [i64w (by omega) (by omega)]
 have E6 : (t.len : Int) = (n : Nat) := by omega
 have hblb := Z0u hb0
 have hbltop : bl ((dig b).getD (wn b - 1) 0) ≤ 32 := by
  have h3 := (y09 hb0).2.2
  have := g0k h3
  have := (w05 b).getD (wn b - 1)
  have := (Nat.pow_lt_pow_iff_right (a := 2) (n := bl ((dig b).getD (wn b - 1) 0) - 1) (m := 32) (by omega)).1 (by omega)
  omega
 have Esh : i64.wrap (i64.wrap (32 * (t.len : Int)) - (bl b : Nat)) = (sh : Nat) := by
  rw [i64w (n := 32 * (t.len : Int)) (by omega) (by omega), i64w (by omega) (by omega)]; omega
 refine (j0f (ht.le l1) (by omega)).mono fun v V4 l4 hv => ⟨_, hv, ?_⟩
 simp only [Esh]
 refine (S0b (ht.le (View.le_trans l1 l4)) (by omega) (by omega)).mono fun v V5 l5 ⟨w, hv, hw⟩ => ⟨w, hv, ?_⟩
 rw [← hvN] at hw
 have hwl : w.len = n := by have := hw.len; simp only [wn] at hwv; omega
 simp only [E2, Int.toNat_natCast, hwl, E3, E1, E4, E5]
 refine ⟨⟨by omega, by omega, by omega, by omega⟩, (S0b (hs.le (View.le_trans l1 (View.le_trans l4 l5))) (by omega) (by omega)).mono fun v V6 l6 ⟨ua, hv, hua⟩ => ⟨ua, hv, ?_⟩⟩
 rw [← hX] at hua
 have hXm : wn X ≤ m := by
  refine B05 ?_
  rw [hX, hm, Nat.pow_succ]
  exact Nat.mul_lt_mul'' hal (Nat.lt_of_le_of_lt (Nat.pow_le_pow_right (by omega) hsh1) (by omega))
 have hual := hua.len
 simp only [wn] at hXm
 refine ⟨wv (dig X), Q01.has hua, by rw [S00]; omega, ?_, ?_, ?_, ⟨by omega, by omega, by omega, by omega⟩, ?_⟩
 · by_cases h0 : ua.len = 0
   · left; have : (dig X).length = 0 := by omega
     rw [List.eq_nil_of_length_eq_zero this]; rfl
   · right; exact hua.isSome (by omega)
 · intro v hv; simp only [wv, List.mem_map] at hv; obtain ⟨d, _, rfl⟩ := hv; rfl
 · rw [c05, S00, S00]; simp; omega
 rw [c05, c05, A0r m (dig X) (by omega)]
 have hq0 : seg (dig X ++ List.replicate (m - (dig X).length) 0) 0 m = X := by
  rw [i07 (by simp; omega), s0o, B01]
 have h7 := c0m hal hm hX hsh1 (by omega) (by omega) hlo _ hq0
 refine ⟨⟨w, m - n, _, _, rfl, hw.le l6, rfl, by omega, ?_, by simp; omega, WB.zeros _, by simp, ?_, h7⟩, ?_⟩
 · intro d hd
   rcases List.mem_append.1 hd with hd | hd
   · exact w05 X d hd
   · rw [(List.mem_replicate.1 hd).2]; omega
 · rw [show m - n + n = m by omega, hq0, Nat.sub_self, D05]; simp
 rintro _ V7 hle7 ⟨w', j, u, qd, hc, hw7, rfl, hD⟩
 obtain rfl : w' = w := by simp only [M01.mk.injEq] at hc; exact hc.2.1.symm
 have hjl := hD.jl
 have hlu := hD.lu
 have hlq := hD.lq
 have hwu := hD.wu
 simp only [N0n]
 refine ⟨fun hp => ?_, fun hp b1 V12 l12 hb1 b2 V13 l13 hb2 => ?_⟩
 · simp only [ge_iff_le, decide_eq_true_eq] at hp
   obtain ⟨i, rfl⟩ : ∃ i, j = i + 1 := ⟨j - 1, by omega⟩
   have e0 : (((i + 1 : Nat) : Int) - 1) = (i : Nat) := by omega
   simp only [e0]
   have F1 : i64.wrap ((i : Int) + (n : Int)) = ((i + n : Nat) : Int) := by rw [i64w (by omega) (by omega)]; omega
   have F2 : i64.wrap (((i + n : Nat) : Int) - 1) = ((i + n - 1 : Nat) : Int) := by rw [i64w (by omega) (by omega)]; omega
   have F3 : i64.wrap (((i + n : Nat) : Int) - 2) = ((i + n - 2 : Nat) : Int) := by rw [i64w (by omega) (by omega)]; omega
   have F4 : i64.wrap ((i : Int) - 1) = (i : Int) - 1 := by rw [i64w (by omega) (by omega)]
   simp only [F1, F2, F3, F4, Int.toNat_natCast, Nat.zero_add, Nat.mul_one]
   have G := i0k hwu hn2 hwv hD.lt
   rw [← hv1, ← hv2] at G
   obtain ⟨W, hW⟩ : ∃ W, W = seg u i (n + 1) := ⟨_, rfl⟩
   obtain ⟨u2, hu2⟩ : ∃ x, x = u.getD (i + n) 0 := ⟨_, rfl⟩
   obtain ⟨u1, hu1⟩ : ∃ x, x = u.getD (i + n - 1) 0 := ⟨_, rfl⟩
   obtain ⟨u0, hu0⟩ : ∃ x, x = u.getD (i + n - 2) 0 := ⟨_, rfl⟩
   rw [← hW, ← hu2, ← hu1, ← hu0] at G
   have hu2l : u2 < 4294967296 := by rw [hu2]; exact hwu.getD _
   have hv1l := G.h1
   have hv1p := G.pos
   have hu1l := G.k1
   have hv1b : 2147483648 ≤ v1 := by
    have hvn0 : vN ≠ 0 := by rintro rfl; rw [H09] at hwv; omega
    have h3 := (y09 hvn0).2.1
    rw [hwv, ← hv1] at h3
    have h4 : 2147483648 * 4294967296 ^ (n - 1) < (v1 + 1) * 4294967296 ^ (n - 1) := by omega
    have := Nat.lt_of_mul_lt_mul_right h4
    omega
   have gv1 := (hw7).get (i := ((n - 1 : Nat) : Int)) (by omega) (by omega)
   rw [Int.toNat_natCast, ← hv1, Nat.mul_one] at gv1
   have gv2 := (hw7).get (i := ((n - 2 : Nat) : Int)) (by omega) (by omega)
   rw [Int.toNat_natCast, ← hv2, Nat.mul_one] at gv2
   have hws := hw7.isSome (by omega)
   have hor : BitVec.toNat ((BitVec.ofInt u64.bits (u64.wrap ((u64.wrap (u2 : Int)) * 4294967296))) ||| (BitVec.ofInt u64.bits (u64.wrap (u1 : Int)))) = u2 * 4294967296 + u1 := by
    rw [u64w (n := (u2 : Int)) (by omega) (by omega), u64w (n := (u1 : Int)) (by omega) (by omega), u64w (by omega) (by omega), show (u2 : Int) * 4294967296 = ((u2 * 4294967296 : Nat) : Int) by omega]
    exact or64 hu1l hu2l
   refine ⟨⟨by omega, by omega⟩, _, Y07 (by omega), ⟨by omega, by omega⟩, _, Y07 (by omega), ⟨by omega, by omega, hws⟩, _, gv1, ?_, ⟨by omega, by omega, hws⟩, _, gv1, ?_, ⟨?_, ?_⟩, ?_⟩
   · rw [u64w (by omega) (by omega)]; omega
   · rw [u64w (by omega) (by omega)]; omega
   · -- the first guess
     rw [← hu2, ← hu1, hor, u64w (n := (v1 : Int)) (by omega) (by omega), u64w (n := ((u2 * 4294967296 + u1 : Nat) : Int)) (by omega) (by omega), ← Int.ofNat_tdiv, ← Int.ofNat_tmod]
     have h3 : (u2 * 4294967296 + u1) / v1 ≤ u2 * 4294967296 + u1 := Nat.div_le_self _ _
     have h4 : (u2 * 4294967296 + u1) % v1 < v1 := Nat.mod_lt _ hv1p
     have h5 := Nat.div_add_mod' (u2 * 4294967296 + u1) v1
     have h6 := G.init
     generalize (u2 * 4294967296 + u1) / v1 = g at *
     generalize (u2 * 4294967296 + u1) % v1 = r at *
     rw [u64w (n := (g : Int)) (by omega) (by omega)]
     refine ⟨w', i, g, r, u, qd, rfl, rfl, by omega, ?_, ?_⟩
     · rw [← hu2, ← hu1]; exact h5
     · rw [← hW]; exact h6
   · -- the guess is put down
     rintro _ V9 l9 ⟨w2, i2, g, r, u', qd', hc2, rfl, hr, hgr, hge⟩
     simp only [A01.mk.injEq] at hc2
     obtain ⟨_, rfl, _, _, _, hi2, hu', hq'⟩ := hc2
     obtain rfl : i2 = i := by omega
     obtain rfl := G0f hu'
     obtain rfl := G0f hq'
     rw [← hu2, ← hu1] at hgr
     rw [← hW] at hge
     have hgl : g < 8589934592 := by
      rcases Nat.lt_or_ge g 8589934592 with h | h
      · exact h
      · exfalso
        have := Nat.mul_le_mul h hv1b
        omega
     have gv1' := K02 l9 gv1
     have gv2' := K02 l9 gv2
     simp only
     -- a step down
     have down : 0 < g → W / vN ≤ g - 1 → (4294967296 ≤ r + v1 → (g - 1 - 1) * vN ≤ W ∧ g - 1 < 4294967296) →
      ((decide (((u64.wrap ((r : Int) + (u64.wrap (v1 : Int)))) : Int) ≥ 4294967296)) = true →
        ∃ (v : Sl) (j g' : Nat) (u1 qd1 : List Nat), C01.mk (sh : Nat) w' (n : Nat) (m - n) (m - n) (i2 : Nat) (wv u) (wv qd) = C01.mk (sh : Nat) v (n : Nat) (m - n) (m - n) (j : Nat) (wv u1) (wv qd1) ∧ X01.mk (u64.wrap ((g : Int) - 1)) = X01.mk (g' : Nat) ∧ g' < 4294967296 ∧ seg u1 j (n + 1) / vN ≤ g' ∧ (g' - 1) * vN ≤ seg u1 j (n + 1)) ∧
      ((decide (((u64.wrap ((r : Int) + (u64.wrap (v1 : Int)))) : Int) ≥ 4294967296)) = false →
        (∃ (v : Sl) (j g' r' : Nat) (u1 qd1 : List Nat), A01.mk (sh : Nat) w' (n : Nat) (m - n) (m - n) (i2 : Nat) (wv u) (wv qd) = A01.mk (sh : Nat) v (n : Nat) (m - n) (m - n) (j : Nat) (wv u1) (wv qd1) ∧
          D01.mk (u64.wrap ((g : Int) - 1)) (u64.wrap ((r : Int) + (u64.wrap (v1 : Int)))) = D01.mk (g' : Nat) (r' : Nat) ∧ r' < 4294967296 ∧ g' * v1 + r' = u1.getD (j + n) 0 * 4294967296 + u1.getD (j + n - 1) 0 ∧ seg u1 j (n + 1) / vN ≤ g') ∧
        (u64.wrap ((g : Int) - 1)).toNat < (g : Int).toNat) := by
      intro h0 h1 h2
      rw [u64w (n := (v1 : Int)) (by omega) (by omega), u64w (n := (r : Int) + v1) (by omega) (by omega), u64w (n := (g : Int) - 1) (by omega) (by omega)]
      have e1 : (g : Int) - 1 = ((g - 1 : Nat) : Int) := by omega
      have e2 : (r : Int) + v1 = ((r + v1 : Nat) : Int) := by omega
      rw [e1, e2]
      refine ⟨fun h => ?_, fun h => ?_⟩
      · simp only [ge_iff_le, decide_eq_true_eq] at h
        obtain ⟨h3, h4⟩ := h2 (by omega)
        exact ⟨w', i2, g - 1, u, qd, rfl, rfl, h4, by rw [← hW]; exact h1, by rw [← hW]; exact h3⟩
      · simp only [ge_iff_le, decide_eq_false_iff_not] at h
        refine ⟨⟨w', i2, g - 1, r + v1, u, qd, rfl, rfl, by omega, ?_, by rw [← hW]; exact h1⟩, by omega⟩
        rw [← hu2, ← hu1, ← hgr]
        obtain ⟨k, rfl⟩ : ∃ k, g = k + 1 := ⟨g - 1, by omega⟩
        rw [Nat.succ_mul, Nat.add_sub_cancel]; omega
     refine ⟨fun hp2 => ⟨fun _ => ?_, fun h => by cases h⟩, fun hp2 => ?_⟩
     · simp only [ge_iff_le, decide_eq_true_eq] at hp2
       have hq := G.quo
       refine ⟨⟨by omega, by omega, hws⟩, _, gv1', ?_⟩
       exact down (by omega) (by omega) (fun h => (G.brk hgr (by omega) h).symm)
     · simp only [ge_iff_le, decide_eq_false_iff_not] at hp2
       have hg32 : g < 4294967296 := by omega
       have hv2l := G.h2
       have hm1 := z0e hg32 hv2l
       have hu0l := G.k0
       refine ⟨⟨by omega, by omega, hws⟩, _, gv2', ⟨by omega, by omega⟩, _, Y07 (by omega), ?_⟩
       rw [← hu0]
       have hor2 : BitVec.toNat ((BitVec.ofInt u64.bits (u64.wrap ((r : Int) * 4294967296))) ||| (BitVec.ofInt u64.bits (u64.wrap (u0 : Int)))) = r * 4294967296 + u0 := by
        rw [u64w (n := (u0 : Int)) (by omega) (by omega), u64w (by omega) (by omega), show (r : Int) * 4294967296 = ((r * 4294967296 : Nat) : Int) by omega]
        exact or64 hu0l hr
       rw [hor2, u64w (n := (v2 : Int)) (by omega) (by omega), ← Int.natCast_mul, u64w (n := ((g * v2 : Nat) : Int)) (by omega) (by omega), u64w (n := ((r * 4294967296 + u0 : Nat) : Int)) (by omega) (by omega)]
       refine ⟨fun hp3 => ?_, fun hp3 => ?_⟩
       · simp only [gt_iff_lt, decide_eq_true_eq] at hp3
         have hd := G.dec hgr (by omega)
         refine ⟨⟨by omega, by omega, hws⟩, _, gv1', ?_⟩
         have hg0 : 0 < g := Nat.lt_of_le_of_lt (Nat.zero_le _) hd
         exact down hg0 (Nat.le_sub_one_of_lt hd) (fun h => (G.brk hgr hg0 h).symm)
       · simp only [gt_iff_lt, decide_eq_false_iff_not] at hp3
         exact ⟨w', i2, g, u, qd, rfl, rfl, hg32, by rw [← hW]; exact hge, by rw [← hW]; exact G.exit hgr hg32 (by omega)⟩
   · -- the guess is taken
     rintro _ V8 l8 ⟨w2, i2, g, u', qd', hc2, rfl, hg32, hge, hgl⟩
     simp only [C01.mk.injEq] at hc2
     obtain ⟨_, rfl, _, _, _, hi2, hu', hq'⟩ := hc2
     obtain rfl : i2 = i := by omega
     obtain rfl := G0f hu'
     obtain rfl := G0f hq'
     refine ⟨⟨w', i2, g, 0, 0, 0, u, qd, u, rfl, rfl, hD, hn2, by omega, hwv, hg32, hge, hgl, by omega, hwu, hlu, by omega, by omega, fun _ _ => rfl, by simp [D05, wval]⟩, ?_⟩
     clear G hge hgl gv1 gv2 hor hq0 h7 hXm hual hua hcmp hlo hX hvN hsh hblb hbltop Esh hv1 hv2 hu2 hu1 hu0 hW
     rintro _ V10 l10 ⟨w2, i9, g9, k, c0, b0, u9, qd9, u00, hc9, rfl, hT⟩
     simp only [Y01.mk.injEq] at hc9
     obtain ⟨_, rfl, _, _, _, hi9, hgg⟩ := hc9
     obtain rfl : i2 = i9 := by omega
     obtain rfl : g = g9 := by omega
     have hjn := hT.jn
     have hkn := hT.i_le
     have hlu9 := hT.lu
     have hlq9 := hT.div.lq
     have hme : ((i2 : Int) - 1 + 1).toNat < (((i2 + 1 : Nat) : Int)).toNat := by omega
     simp only [a0s, Int.toNat_natCast]
     refine ⟨fun hp2 => ?_, fun hp2 => ?_⟩
     · simp only [decide_eq_true_eq] at hp2
       have hkn : k < n := by omega
       have K1 : i64.wrap ((k : Int) + i2) = ((i2 + k : Nat) : Int) := by rw [i64w (by omega) (by omega)]; omega
       simp only [K1, Int.toNat_natCast]
       have gk := (hw7.le (View.le_trans l8 l10)).get (i := (k : Nat)) (by omega) (by omega)
       simp only [Int.toNat_natCast, Nat.mul_one] at gk
       refine ⟨⟨by omega, by omega, hws⟩, _, gk, ⟨by omega, by omega⟩, _, Y07 (by omega), ⟨by omega, by omega⟩, by rw [S00]; omega, ?_⟩
       obtain ⟨low, br, c, e1, e2, e3, hT'⟩ := hT.step hkn
       rw [e1, e2, e3, e05, i64w (n := (k : Int) + 1) (by omega) (by omega)]
       exact ⟨⟨w', i2, g, k + 1, c, br, _, qd9, u00, rfl, rfl, hT'⟩, by omega⟩
     simp only [decide_eq_false_iff_not] at hp2
     obtain rfl : n = k := by omega
     refine ⟨⟨by omega, by omega⟩, _, Y07 (by omega), ⟨by omega, by omega⟩, by rw [S00]; omega, ?_⟩
     obtain ⟨low, br, e1, e2, hl', hb1, hb0⟩ := hT.last
     rw [e1, e2, e05]
     refine ⟨fun hn1 => ?_, fun hn1 => ?_⟩
     · -- one too many: it is added back
       obtain ⟨hB, hg0⟩ := hb1 (by have : (br : Int) = 1 := (by simpa using hn1); omega)
       rw [u64w (n := (g : Int) - 1) (by omega) (by omega), show (g : Int) - 1 = ((g - 1 : Nat) : Int) by omega]
       refine ⟨⟨w', i2, g, 0, 0, _, qd9, u00, _, rfl, rfl, hg0, hB⟩, ?_⟩
       clear hT hB hb1 hb0 hl' e1 e2
       rintro _ V11 l11 ⟨w3, i3, g3, k3, cr, u3, qd3, u03, l3, hc3, rfl, hg3, hB⟩
       simp only [Z01.mk.injEq] at hc3
       obtain ⟨_, rfl, _, _, _, hi3, hg3'⟩ := hc3
       obtain rfl : i2 = i3 := by omega
       obtain rfl : g = g3 := by omega
       have hjn := hB.jn
       have hkn := hB.k_le
       have hlu3 := hB.lu
       have hlq3 := hB.div.lq
       simp only [Int.toNat_natCast]
       refine ⟨fun hp4 => ?_, fun hp4 => ?_⟩
       · simp only [decide_eq_true_eq] at hp4
         have hkn : k3 < n := by omega
         have K1 : i64.wrap ((k3 : Int) + i2) = ((i2 + k3 : Nat) : Int) := by rw [i64w (by omega) (by omega)]; omega
         simp only [K1, Int.toNat_natCast]
         have gk := (hw7.le (View.le_trans l8 (View.le_trans l10 l11))).get (i := (k3 : Nat)) (by omega) (by omega)
         simp only [Int.toNat_natCast, Nat.mul_one] at gk
         refine ⟨⟨by omega, by omega⟩, _, Y07 (by omega), ⟨by omega, by omega, hws⟩, _, gk, ⟨by omega, by omega⟩, by rw [S00]; omega, ?_⟩
         obtain ⟨low, c, e1, e2, hB'⟩ := hB.step hkn
         rw [e1, e2, e05, i64w (n := (k3 : Int) + 1) (by omega) (by omega)]
         exact ⟨⟨w', i2, g, k3 + 1, c, _, qd3, u03, l3, rfl, rfl, hg3, hB'⟩, by omega⟩
       · simp only [decide_eq_false_iff_not] at hp4
         obtain rfl : n = k3 := by omega
         refine ⟨⟨by omega, by omega⟩, _, Y07 (by omega), ⟨by omega, by omega⟩, by rw [S00]; omega, ⟨by omega, by omega⟩, by rw [S00]; omega, ?_⟩
         obtain ⟨low, e1, hD'⟩ := hB.last
         rw [u32w (n := ((g - 1 : Nat) : Int)) (by omega) (by omega), e1, e05, e05]
         exact ⟨⟨w', i2, _, _, rfl, hw7.le (View.le_trans l8 (View.le_trans l10 l11)), rfl, hD'⟩, hme⟩
     · -- the guess is right
       have hD' := hb0 (fun h => by rw [h] at hn1; simp at hn1)
       rw [u32w (n := (g : Int)) (by omega) (by omega), e05]
       exact ⟨⟨by omega, by omega⟩, by rw [S00]; omega, ⟨w', i2, _, _, rfl, hw7.le (View.le_trans l8 l10), rfl, hD'⟩, hme⟩
 · -- the end
   simp only [ge_iff_le, decide_eq_false_iff_not] at hp
   obtain rfl : j = 0 := by omega
   have heq := hD.eq
   have hlt0 := hD.lt
   rw [Nat.zero_add, Nat.pow_zero, Nat.one_mul, Nat.sub_zero] at heq
   obtain ⟨hq1, hr1⟩ := L0o hX hvN hb0 heq hlt0
   have hwq : Q01 V12 (Sl.mk (some (Addr.mk b1 0 none)) (m - n) (m - n)) qd := Q01.of_block hb1 (by omega) (Nat.le_refl _) hD.wq
   have hwr : Q01 V13 (Sl.mk (some (Addr.mk b2 0 none)) m m) u := Q01.of_block hb2 (by omega) (Nat.le_refl _) hwu
   refine ⟨⟨by omega, by omega, by omega⟩, (Z03 (Q01.le l13 hwq) (by omega)).mono fun v V14 l14 ⟨q, hv, hq⟩ => ⟨q, hv, ?_⟩⟩
   have hwr2 : Q01 V14 (Sl.mk (some (Addr.mk b2 0 none)) n m) (u.take n) := Q01.le l14 (Q01.pre hwr (k := n) (c := m) (by omega) (by omega))
   have hl50 : (u.take n).length ≤ 2 ^ 50 := by rw [List.length_take]; omega
   have hz : Int.toNat 0 = 0 := rfl
   have hm0 : ¬ m = 0 := by omega
   have hadd : Option.map (fun q => Addr.add q 0) (some (Addr.mk b2 0 none)) = some (Addr.mk b2 0 none) := by simp [Addr.add]
   simp only [hz, hm0, if_false, Nat.zero_mul, hadd, Nat.sub_zero]
   have htr := Z03 hwr2 hl50
   refine htr.mono fun v V15 l15 ⟨r, hv, hr⟩ => ⟨r, hv, ?_⟩
   rw [← c0k] at hr
   have hrw : wn (seg u 0 n) ≤ 2 ^ 44 := by
    have := B05 (O0b hwu 0 n)
    omega
   refine (W0f hr hrw (by omega)).mono fun v V16 l16 ⟨r2, hv, hr2⟩ => ⟨r2, hv, q, r2, rfl, ?_, ?_⟩
   · rw [← hq1, i07 (by omega)]; exact hq.le (View.le_trans l15 l16)
   · rw [← hr1]; exact hr2

theorem i09 {V : View} {s t : Sl} {a b : Nat} (hs : E00 V s a) (ht : E00 V t b) (ha : wn a ≤ 2 ^ 43) (hb : wn b ≤ 2 ^ 43) :
 a00 prog G0j #[s.v, t.v] V fun v V' => ∃ r : Sl, v = r.v ∧ E00 V' r (Nat.gcd a b) := by
 refine P0h s t V _ (fun _ x V' => ∃ a' b', E00 V' x.t0 a' ∧ E00 V' x.t1 b' ∧ wn a' ≤ 2 ^ 43 ∧ wn b' ≤ 2 ^ 43 ∧ Nat.gcd a' b' = Nat.gcd a b) (fun _ x V' => H0d V' x.t1) ⟨⟨a, b, hs, ht, ha, hb, rfl⟩, ?_⟩
 rintro ⟨x, y⟩ V1 l1 ⟨a', b', hx, hy, wa, wb, hg⟩
 simp only at hx hy ⊢
 have hyl := hy.len
 refine ⟨fun hp => ?_, fun hp => ?_⟩
 · simp only [gt_iff_lt, decide_eq_true_eq] at hp
   have hb0 : b' ≠ 0 := fun e => by rw [← hy.len_zero] at e; omega
   refine (j05 hx hy wa hb0).mono fun v V2 l2 ⟨q, r, hv, hq, hr⟩ => ⟨q, r, hv, ?_⟩
   have hlt : a' % b' < b' := Nat.mod_lt _ (by omega)
   have hwr : wn (a' % b') ≤ wn b' := w0a (Nat.le_of_lt hlt)
   refine ⟨⟨b', a' % b', hy.le l2, hr, wb, by omega, ?_⟩, ?_⟩
   · rw [Nat.gcd_comm, ← Nat.gcd_rec, Nat.gcd_comm]; exact hg
   · rw [M08 hr, M08 hy]; exact hlt
 · simp only [gt_iff_lt, decide_eq_false_iff_not] at hp
   have hb0 : b' = 0 := hy.len_zero.1 (by omega)
   subst hb0
   rw [Nat.gcd_zero_right] at hg
   exact ⟨x, rfl, by rw [← hg]; exact hx⟩
theorem F04 {V : View} {s : Sl} {n : Nat} (neg : Bool) (h : E00 V s n) :
 a00 prog n0b #[.bool neg, s.v] V fun v V' => ∃ r : WhV, v = r.val ∧ d03 V' r (if neg = true then -(n : Int) else n) := by
 have hl := h.len_zero
 refine Q0h neg s V _ ⟨fun hn => ⟨_, rfl, ?_, ?_⟩, fun hn => ⟨_, rfl, ?_, ?_⟩⟩
 · rw [if_pos hn]; simp only [gt_iff_lt, decide_eq_decide]; omega
 · rw [if_pos hn]; simpa using h
 · rw [if_neg (by simp [hn])]; symm; simp only [decide_eq_false_iff_not]; omega
 · rw [if_neg (by simp [hn])]; simpa using h
theorem M07 {V : View} {n : Int} (h0 : -9223372036854775808 ≤ n) (h1 : n ≤ 9223372036854775807) :
 a00 prog f0l #[.int .i64 n] V fun v V' => ∃ r : WhV, v = r.val ∧ d03 V' r n := by
 refine U0j n V _ ⟨fun hn => ?_, fun hn => ?_⟩
 · simp only [decide_eq_true_eq] at hn
   have e : u64.wrap (i64.wrap (0 - n)) = -n := by
    by_cases hm : n = -9223372036854775808
    · subst hm; decide
    · rw [i64w (by omega) (by omega), u64w (by omega) (by omega)]; omega
   rw [e]
   refine (M09 (by omega) (by omega)).mono fun v V1 _ ⟨r, hv, hr⟩ => ⟨r, hv, _, rfl, by simp [hn], ?_⟩
   have e2 : n.natAbs = (-n).toNat := by omega
   rw [e2]; exact hr
 · simp only [decide_eq_false_iff_not] at hn
   rw [u64w (by omega) (by omega)]
   refine (M09 (by omega) (by omega)).mono fun v V1 _ ⟨r, hv, hr⟩ => ⟨r, hv, _, rfl, by simp [hn], ?_⟩
   have e2 : n.natAbs = n.toNat := by omega
   rw [e2]; exact hr
theorem k05 {V : View} {x : WhV} {a : Int} (h : d03 V x a) :
 a00 prog A0j #[x.val] V fun v V' => ∃ r : WhV, v = r.val ∧ d03 V' r (-a) := by
 refine S0h x V _ ((F04 (!x.neg) h.2).mono fun v V1 _ ⟨r, hv, hr⟩ => ⟨r, hv, r, rfl, ?_⟩)
 have e : (if (!x.neg) = true then -(a.natAbs : Int) else (a.natAbs : Int)) = -a := by
  rw [h.1]; simp only [Bool.not_eq_true', decide_eq_false_iff_not]; split <;> omega
 rw [e] at hr; exact hr
theorem e07 {V : View} {x y : WhV} {a b : Int} (hx : d03 V x a) (hy : d03 V y b) (ha : wn a.natAbs ≤ 2 ^ 43) (hb : wn b.natAbs ≤ 2 ^ 43) :
 a00 prog B0j #[x.val, y.val] V fun v V' => ∃ r : WhV, v = r.val ∧ d03 V' r (a + b) := by
 have h1 := hx.1
 have h2 := hy.1
 refine W0h x y V _ ⟨fun hs => ?_, fun hs => ?_⟩
 · refine (U0f hx.2 hy.2 (by omega) (by omega)).mono fun v V1 l1 ⟨r, hv, hr⟩ => ⟨r, hv, ?_⟩
   refine (F04 x.neg hr).mono fun v V2 _ ⟨w, hv, hw⟩ => ⟨w, hv, w, rfl, ?_⟩
   have e : (if x.neg = true then -((a.natAbs + b.natAbs : Nat) : Int) else ((a.natAbs + b.natAbs : Nat) : Int)) = a + b := by
    rw [h1, h2] at hs; rw [h1]
    by_cases p : a < 0 <;> by_cases q : b < 0 <;> simp [p, q] at hs ⊢ <;> omega
   rw [e] at hw; exact hw
 · refine (Z05 hx.2 hy.2 (by omega)).mono fun v V1 l1 hv => ⟨_, hv, fun hc => ?_, fun hc => ?_⟩
   · have hc : b.natAbs ≤ a.natAbs := by
       rcases Nat.lt_or_ge a.natAbs b.natAbs with h | h
       · rw [if_pos h] at hc; simp at hc
       · exact h
     refine (Q0b (hx.2.le l1) (hy.2.le l1) (by omega) hc).mono fun v V2 l2 ⟨r, hv, hr⟩ => ⟨r, hv, ?_⟩
     refine (F04 x.neg hr).mono fun v V3 _ ⟨w, hv, hw⟩ => ⟨w, hv, w, rfl, ?_⟩
     have e : (if x.neg = true then -((a.natAbs - b.natAbs : Nat) : Int) else ((a.natAbs - b.natAbs : Nat) : Int)) = a + b := by
      rw [h1, h2] at hs; rw [h1]
      by_cases p : a < 0 <;> by_cases q : b < 0 <;> simp [p, q] at hs ⊢ <;> omega
     rw [e] at hw; exact hw
   · have hc : a.natAbs ≤ b.natAbs := by
       rcases Nat.lt_or_ge b.natAbs a.natAbs with h | h
       · rw [if_neg (by omega), if_neg (by omega)] at hc; simp at hc
       · exact h
     refine (Q0b (hy.2.le l1) (hx.2.le l1) (by omega) hc).mono fun v V2 l2 ⟨r, hv, hr⟩ => ⟨r, hv, ?_⟩
     refine (F04 y.neg hr).mono fun v V3 _ ⟨w, hv, hw⟩ => ⟨w, hv, w, rfl, ?_⟩
     have e : (if y.neg = true then -((b.natAbs - a.natAbs : Nat) : Int) else ((b.natAbs - a.natAbs : Nat) : Int)) = a + b := by
      rw [h1, h2] at hs; rw [h2]
      by_cases p : a < 0 <;> by_cases q : b < 0 <;> simp [p, q] at hs ⊢ <;> omega
     rw [e] at hw; exact hw
theorem X0f {V : View} {x y : WhV} {a b : Int} (hx : d03 V x a) (hy : d03 V y b) (ha : wn a.natAbs ≤ 2 ^ 43) (hb : wn b.natAbs ≤ 2 ^ 43) :
 a00 prog E0j #[x.val, y.val] V fun v V' => ∃ r : WhV, v = r.val ∧ d03 V' r (a - b) := by
 refine T0h x y V _ ((k05 hy).mono fun v V1 l1 ⟨r, hv, hr⟩ => ⟨r, hv, ?_⟩)
 rw [Int.sub_eq_add_neg]
 exact (e07 (hx.le l1) hr ha (by rw [Int.natAbs_neg]; exact hb)).mono fun v V2 _ ⟨w, hv, hw⟩ => ⟨w, hv, w, rfl, hw⟩
theorem M02 {V : View} {x y : WhV} {a b : Int} (hx : d03 V x a) (hy : d03 V y b) (ha : wn a.natAbs ≤ 2 ^ 43) (hb : wn b.natAbs ≤ 2 ^ 43) :
 a00 prog C0j #[x.val, y.val] V fun v V' => ∃ r : WhV, v = r.val ∧ d03 V' r (a * b) := by
 refine U0h x y V _ ((d07 hx.2 hy.2 (by omega) (by omega)).mono fun v V1 l1 ⟨r, hv, hr⟩ => ⟨r, hv, ?_⟩)
 refine (F04 (!(x.neg == y.neg)) hr).mono fun v V2 _ ⟨w, hv, hw⟩ => ⟨w, hv, w, rfl, ?_⟩
 have e : (if (!(x.neg == y.neg)) = true then -((a.natAbs * b.natAbs : Nat) : Int) else ((a.natAbs * b.natAbs : Nat) : Int)) = a * b := by
  rw [M0o _ _ a b rfl rfl, hx.1, hy.1]
  by_cases p : a < 0 <;> by_cases q : b < 0 <;> simp [p, q]
 rw [e] at hw; exact hw
theorem E00.lit {V : View} {b n : Nat} (h : V b = some #[.int .u32 (n : Int)]) (h0 : n ≠ 0) (h1 : n < 4294967296) : E00 V (Sl.mk (some (Addr.mk b 0 none)) 1 1) n := by
 have e : dig n = [n] := by
  have h2 : n / 4294967296 = 0 := Nat.div_eq_of_lt h1
  rw [e06 h0, h2, I04, Nat.mod_eq_of_lt h1]
 unfold E00
 rw [e]
 exact Q01.of_block (by rw [h]; rfl) rfl (Nat.le_refl _) (by intro d hd; simp at hd; omega)
theorem T0n : dig 1 = [1] := by rw [e06 (by omega)]; simp [I04]
theorem d03.ofNat {V : View} {s : Sl} {n : Nat} (h : E00 V s n) : d03 V (WhV.mk false s) (n : Int) := ⟨by simp, h⟩
theorem a06 {V : View} {x y : WhV} {s : Sl} {z : Cq} {a b : Int} {d : Nat} (hx : d03 V x a) (hy : d03 V y b) (hs : E00 V s d) (hz : Rep z a b d) (ha : wn a.natAbs ≤ 2 ^ 43) (hb : wn b.natAbs ≤ 2 ^ 43) (hd : wn d ≤ 2 ^ 43) :
 a00 prog e0n #[x.val, y.val, s.v] V fun v V' => ∃ r : NumV, v = r.val ∧ QAt V' r z := by
 obtain ⟨e1, e2, e3⟩ := hz.eqs
 have hp := d0g a b hz.pos
 have d1 := D0c a b d
 have d2 := s0e a b d
 have d3 := U0g a b d
 refine z0l x y s V _ ((i09 hx.2 hy.2 ha hb).mono fun v V1 l1 ⟨r1, hv, h1⟩ => ⟨r1, hv, ?_⟩)
 have hw1 : wn (Nat.gcd a.natAbs b.natAbs) ≤ 2 ^ 43 := by
  rcases Nat.eq_zero_or_pos a.natAbs with h | h
  · rw [h, Nat.gcd_zero_left]; exact hb
  · exact Nat.le_trans (w0a (Nat.le_of_dvd h (Nat.gcd_dvd_left _ _))) ha
 refine (i09 h1 (hs.le l1) hw1 hd).mono fun v V2 l2 ⟨r2, hv, h2⟩ => ⟨r2, hv, ?_⟩
 have hg : Nat.gcd (Nat.gcd a.natAbs b.natAbs) d = gcd3 a b d := rfl
 rw [hg] at h2
 have l02 := View.le_trans l1 l2
 have h2l := h2.len
 have many : gcd3 a b d ≠ 1 → a00 prog o09 #[x.mag.v, r2.v] V2 fun v V8 => ∃ (r11 : Sl) (r12 : Sl), v = .tuple #[r11.v, r12.v] ∧
  a00 prog o09 #[y.mag.v, r2.v] V8 fun v V9 => ∃ (r13 : Sl) (r14 : Sl), v = .tuple #[r13.v, r14.v] ∧
  a00 prog o09 #[s.v, r2.v] V9 fun v V10 => ∃ (r15 : Sl) (r16 : Sl), v = .tuple #[r15.v, r16.v] ∧
  a00 prog n0b #[.bool x.neg, r11.v] V10 fun v V11 => ∃ r17 : WhV, v = r17.val ∧
  a00 prog n0b #[.bool y.neg, r13.v] V11 fun v V12 => ∃ r18 : WhV, v = r18.val ∧ ∃ r : NumV, (NumV.mk r17 r18 r15).val = r.val ∧ QAt V12 r z := by
  intro _
  refine (j05 (hx.2.le l02) h2 ha (by omega)).mono fun v V4 l4 ⟨q1, m1, hv, hq1, _⟩ => ⟨q1, m1, hv, ?_⟩
  refine (j05 (hy.2.le (View.le_trans l02 l4)) (h2.le l4) hb (by omega)).mono fun v V5 l5 ⟨q2, m2, hv, hq2, _⟩ => ⟨q2, m2, hv, ?_⟩
  have l45 := View.le_trans l4 l5
  refine (j05 (hs.le (View.le_trans l02 l45)) (h2.le l45) hd (by omega)).mono fun v V6 l6 ⟨q3, m3, hv, hq3, _⟩ => ⟨q3, m3, hv, ?_⟩
  refine (F04 x.neg (hq1.le (View.le_trans l5 l6))).mono fun v V7 l7 ⟨w1, hv, hw1⟩ => ⟨w1, hv, ?_⟩
  refine (F04 y.neg (hq2.le (View.le_trans l6 l7))).mono fun v V8 l8 ⟨w2, hv, hw2⟩ => ⟨w2, hv, _, rfl, ?_, ?_, ?_⟩
  · rw [e1]
    have e : (if x.neg = true then -((a.natAbs / gcd3 a b d : Nat) : Int) else ((a.natAbs / gcd3 a b d : Nat) : Int)) = a / (gcd3 a b d : Nat) := by
     have k1 := y06 d1
     have k2 := J09 d1 hp
     rw [← k1, hx.1]
     have k3 : (a / (gcd3 a b d : Nat) < 0) ↔ a < 0 := by simpa using k2
     simp only [decide_eq_true_eq]
     split <;> omega
    rw [e] at hw1; exact hw1.le l8
  · rw [e2]
    have e : (if y.neg = true then -((b.natAbs / gcd3 a b d : Nat) : Int) else ((b.natAbs / gcd3 a b d : Nat) : Int)) = b / (gcd3 a b d : Nat) := by
     have k1 := y06 d2
     have k2 := J09 d2 hp
     rw [← k1, hy.1]
     have k3 : (b / (gcd3 a b d : Nat) < 0) ↔ b < 0 := by simpa using k2
     simp only [decide_eq_true_eq]
     split <;> omega
    rw [e] at hw2; exact hw2
  · rw [e3]; exact hq3.le (View.le_trans l7 l8)
 refine ⟨fun hn => ?_, fun hn => ⟨fun h => absurd h (by simp), fun _ => ?_⟩⟩
 · have hn : r2.len = 1 := by have : (r2.len : Int) = 1 := (by simpa using hn); omega
   refine ⟨⟨by omega, by omega, h2.isSome (by omega)⟩, _, h2.get (by omega) (by omega), fun hw => ?_, fun hw => ?_⟩
   · have hw : (dig (gcd3 a b d)).getD 0 0 = 1 := by have : (((dig (gcd3 a b d)).getD 0 0 : Nat) : Int) = 1 := of_decide_eq_true (by rw [← hw]; rfl); omega
     have hg1 : gcd3 a b d = 1 := by
      rw [hn] at h2l
      have h3 := B01 (gcd3 a b d)
      obtain ⟨w, hw'⟩ : ∃ w, dig (gcd3 a b d) = [w] := List.length_eq_one_iff.1 h2l.symm
      rw [hw'] at hw h3
      simp [wval] at hw h3
      omega
     rw [hg1] at e1 e2 e3
     simp only [Int.natCast_one, Int.ediv_one] at e1 e2
     rw [Nat.div_one] at e3
     exact ⟨_, rfl, by rw [e1]; exact hx.le l02, by rw [e2]; exact hy.le l02, by rw [e3]; exact hs.le l02⟩
   · refine many fun h => ?_
     rw [h, T0n] at hw; simp at hw
 · refine many fun h => ?_
   rw [h, T0n] at h2l
   rw [h2l] at hn; simp at hn
theorem N09 {V : View} {n : Int} (h0 : -9223372036854775808 ≤ n) (h1 : n ≤ 9223372036854775807) :
 a00 prog t0f #[.int .i64 n] V fun v V' => ∃ r : NumV, v = r.val ∧ QAt V' r ⟨(n : Rat), 0⟩ := by
 obtain ⟨e1, e2, e3⟩ := Q0c n
 refine W0j n V _ ((M07 h0 h1).mono fun v V1 _ ⟨r, hv, hr⟩ => ⟨r, hv, fun b V2 l2 _ hb => ⟨_, rfl, by rw [e1]; exact hr.le l2, by rw [e2]; exact d03.zero _, by rw [e3]; exact E00.lit hb (by omega) (by omega)⟩⟩)
theorem G0e {V : View} {p q d : Int} (p0 : -9223372036854775808 ≤ p) (p1 : p ≤ 9223372036854775807) (q0 : -9223372036854775808 ≤ q) (q1 : q ≤ 9223372036854775807) (d0 : -9223372036854775808 ≤ d) (d1 : d ≤ 9223372036854775807) (hd : d ≠ 0) :
 a00 prog C0p #[.int .i64 p, .int .i64 q, .int .i64 d] V fun v V' => ∃ r : NumV, v = .tuple #[r.val, .int .i64 0] ∧ QAt V' r ⟨(p : Rat) / (d : Rat), (q : Rat) / (d : Rat)⟩ := by
 refine B0n p q d V _ ⟨fun h => ?_, fun _ => ?_⟩
 · exact absurd (by simpa using h) hd
 refine (M07 d0 d1).mono fun v V1 l1 ⟨c, hv, hc⟩ => ⟨c, hv, ?_⟩
 refine (M07 p0 p1).mono fun v V2 l2 ⟨a, hv, ha⟩ => ⟨a, hv, ?_⟩
 refine (M07 q0 q1).mono fun v V3 l3 ⟨b, hv, hb⟩ => ⟨b, hv, fun hn => ?_, fun hn => ?_⟩
 · have hneg : d < 0 := by have := hc.1; rw [hn] at this; simpa using this.symm
   refine (k05 (ha.le l3)).mono fun v V4 l4 ⟨a', hv, ha'⟩ => ⟨a', hv, ?_⟩
   refine (k05 (hb.le l4)).mono fun v V5 l5 ⟨b', hv, hb'⟩ => ⟨b', hv, ?_⟩
   refine (a06 (ha'.le l5) hb' (hc.2.le (View.le_trans l2 (View.le_trans l3 (View.le_trans l4 l5)))) ?_ (wn64 (by omega)) (wn64 (by omega)) (wn64 (by omega))).mono fun v V6 l6 ⟨r, hv, hr⟩ => ⟨r, hv, r, rfl, hr⟩
   have e : ((d.natAbs : Nat) : Rat) = -(d : Rat) := by
    have : (d.natAbs : Int) = -d := by omega
    rw [← Rat.intCast_natCast, this]; push_cast; rfl
   refine ⟨by omega, ?_, ?_⟩ <;> (simp only [e]; push_cast; rw [Rat.div_def, Rat.div_def]; grind)
 · have hpos : ¬ d < 0 := by have := hc.1; rw [hn] at this; simpa using this.symm
   refine (a06 (ha.le l3) hb (hc.2.le (View.le_trans l2 l3)) ?_ (wn64 (by omega)) (wn64 (by omega)) (wn64 (by omega))).mono fun v V6 l6 ⟨r, hv, hr⟩ => ⟨r, hv, r, rfl, hr⟩
   have e : ((d.natAbs : Nat) : Rat) = (d : Rat) := by
    have : (d.natAbs : Int) = d := by omega
    rw [← Rat.intCast_natCast, this]
   refine ⟨by omega, ?_, ?_⟩ <;> simp only [e]
theorem J0b {V : View} {x y : NumV} {z w : Cq} (hx : QAt V x z) (hy : QAt V y w) (hz : z.sz ≤ 2 ^ 40) (hw : w.sz ≤ 2 ^ 40) :
 a00 prog D0p #[x.val, y.val] V fun v V' => ∃ r : NumV, v = r.val ∧ QAt V' r (z + w) := by
 have zA := Cq.wA hz; have zB := Cq.wB hz; have zD := Cq.wD hz
 have wA := Cq.wA hw; have wB := Cq.wB hw; have wD := Cq.wD hw
 have zD' : wn (z.D : Int).natAbs ≤ 2 ^ 35 := zD
 have wD' : wn (w.D : Int).natAbs ≤ 2 ^ 35 := wD
 have s1 := q04 zA wD'; have s2 := q04 wA zD'; have s3 := q04 zB wD'; have s4 := q04 wB zD'
 have s5 := E0b s1 s2; have s6 := E0b s3 s4
 have s7 := I09 z.D w.D
 refine C0n x y V _ ((M02 hx.re (d03.ofNat hy.under) (by omega) (by omega)).mono fun v V1 l1 ⟨r1, hv, h1⟩ => ⟨r1, hv, ?_⟩)
 replace hx := hx.le l1; replace hy := hy.le l1
 refine (M02 hy.re (d03.ofNat hx.under) (by omega) (by omega)).mono fun v V2 l2 ⟨r2, hv, h2⟩ => ⟨r2, hv, ?_⟩
 replace hx := hx.le l2; replace hy := hy.le l2; replace h1 := h1.le l2
 refine (e07 h1 h2 (by omega) (by omega)).mono fun v V3 l3 ⟨r3, hv, h3⟩ => ⟨r3, hv, ?_⟩
 replace hx := hx.le l3; replace hy := hy.le l3
 refine (M02 hx.im (d03.ofNat hy.under) (by omega) (by omega)).mono fun v V4 l4 ⟨r4, hv, h4⟩ => ⟨r4, hv, ?_⟩
 replace hx := hx.le l4; replace hy := hy.le l4; replace h3 := h3.le l4
 refine (M02 hy.im (d03.ofNat hx.under) (by omega) (by omega)).mono fun v V5 l5 ⟨r5, hv, h5⟩ => ⟨r5, hv, ?_⟩
 replace hx := hx.le l5; replace hy := hy.le l5; replace h3 := h3.le l5; replace h4 := h4.le l5
 refine (e07 h4 h5 (by omega) (by omega)).mono fun v V6 l6 ⟨r6, hv, h6⟩ => ⟨r6, hv, ?_⟩
 replace hx := hx.le l6; replace hy := hy.le l6; replace h3 := h3.le l6
 refine (d07 hx.under hy.under (by omega) (by omega)).mono fun v V7 l7 ⟨r7, hv, h7⟩ => ⟨r7, hv, ?_⟩
 exact (a06 (h3.le l7) (h6.le l7) h7 (z.canon.rep.add w.canon.rep) (by omega) (by omega) (by omega)).mono fun v V10 _ ⟨r, hv, hr⟩ => ⟨r, hv, r, rfl, hr⟩
theorem x0k {V : View} {x : NumV} {z : Cq} (hx : QAt V x z) : a00 prog I0p #[x.val] V fun v V' => ∃ r : NumV, v = r.val ∧ QAt V' r (-z) := by
 obtain ⟨e1, e2, e3⟩ := z.neg_eqs
 refine E0n x V _ ((k05 hx.re).mono fun v V1 l1 ⟨r1, hv, h1⟩ => ⟨r1, hv, ?_⟩)
 exact (k05 (hx.im.le l1)).mono fun v V2 l2 ⟨r2, hv, h2⟩ => ⟨r2, hv, _, rfl, by rw [e1]; exact h1.le l2, by rw [e2]; exact h2, by rw [e3]; exact hx.under.le (View.le_trans l1 l2)⟩
theorem J0d {V : View} {x : NumV} {z : Cq} (hx : QAt V x z) : a00 prog i0n #[x.val] V fun v V' => ∃ r : NumV, v = r.val ∧ QAt V' r z.conj := by
 obtain ⟨e1, e2, e3⟩ := z.conj_eqs
 exact A0l x V _ ((k05 hx.im).mono fun v V1 l1 ⟨r1, hv, h1⟩ => ⟨r1, hv, _, rfl, by rw [e1]; exact hx.re.le l1, by rw [e2]; exact h1, by rw [e3]; exact hx.under.le l1⟩)
theorem D06 {V : View} {x y : NumV} {z w : Cq} (hx : QAt V x z) (hy : QAt V y w) (hz : z.sz ≤ 2 ^ 40) (hw : w.sz ≤ 2 ^ 40) :
 a00 prog J0p #[x.val, y.val] V fun v V' => ∃ r : NumV, v = r.val ∧ QAt V' r (z - w) := by
 refine F0n x y V _ ((x0k hy).mono fun v V1 l1 ⟨r1, hv, h1⟩ => ⟨r1, hv, ?_⟩)
 rw [B0h]
 exact (J0b (hx.le l1) h1 hz (by rw [J0e]; exact hw)).mono fun v V2 _ ⟨r, hv, hr⟩ => ⟨r, hv, r, rfl, hr⟩
theorem w09 {V : View} {x y : NumV} {z w : Cq} (hx : QAt V x z) (hy : QAt V y w) (hz : z.sz ≤ 2 ^ 40) (hw : w.sz ≤ 2 ^ 40) :
 a00 prog E0p #[x.val, y.val] V fun v V' => ∃ r : NumV, v = r.val ∧ QAt V' r (z * w) := by
 have zA := Cq.wA hz; have zB := Cq.wB hz; have zD := Cq.wD hz
 have wA := Cq.wA hw; have wB := Cq.wB hw; have wD := Cq.wD hw
 have s1 := q04 zA wA; have s2 := q04 zB wB; have s2' := b0s s2; have s3 := q04 zA wB; have s4 := q04 zB wA
 have s5 := E0b s1 s2'; have s6 := E0b s3 s4
 rw [← Int.sub_eq_add_neg] at s5
 have s7 := I09 z.D w.D
 refine D0n x y V _ ((M02 hx.re hy.re (by omega) (by omega)).mono fun v V1 l1 ⟨r1, hv, h1⟩ => ⟨r1, hv, ?_⟩)
 replace hx := hx.le l1; replace hy := hy.le l1
 refine (M02 hx.im hy.im (by omega) (by omega)).mono fun v V2 l2 ⟨r2, hv, h2⟩ => ⟨r2, hv, ?_⟩
 replace hx := hx.le l2; replace hy := hy.le l2; replace h1 := h1.le l2
 refine (X0f h1 h2 (by omega) (by omega)).mono fun v V4 l4 ⟨r4, hv, h4⟩ => ⟨r4, hv, ?_⟩
 replace hx := hx.le l4; replace hy := hy.le l4
 refine (M02 hx.re hy.im (by omega) (by omega)).mono fun v V5 l5 ⟨r5, hv, h5⟩ => ⟨r5, hv, ?_⟩
 replace hx := hx.le l5; replace hy := hy.le l5; replace h4 := h4.le l5
 refine (M02 hx.im hy.re (by omega) (by omega)).mono fun v V6 l6 ⟨r6, hv, h6⟩ => ⟨r6, hv, ?_⟩
 replace hx := hx.le l6; replace hy := hy.le l6; replace h4 := h4.le l6; replace h5 := h5.le l6
 refine (e07 h5 h6 (by omega) (by omega)).mono fun v V7 l7 ⟨r7, hv, h7⟩ => ⟨r7, hv, ?_⟩
 replace hx := hx.le l7; replace hy := hy.le l7; replace h4 := h4.le l7
 refine (d07 hx.under hy.under (by omega) (by omega)).mono fun v V10 l10 ⟨r10, hv, h10⟩ => ⟨r10, hv, ?_⟩
 exact (a06 (h4.le l10) (h7.le l10) h10 (z.canon.rep.mul w.canon.rep) (by omega) (by omega) (by omega)).mono fun v V11 _ ⟨r, hv, hr⟩ => ⟨r, hv, r, rfl, hr⟩
theorem O0c {V : View} {x : WhV} {a : Int} (h : d03 V x a) : x.mag.len = 0 ↔ a = 0 := by
 have := h.2.len_zero
 rw [this]; omega
theorem b07 {V : View} {x : NumV} {z : Cq} (hx : QAt V x z) : a00 prog d0n #[x.val] V fun v _ => v = .int .i64 (cmpR z.re 0) := by
 have h0 := O0c hx.re
 have h1 := hx.re.1
 have hD := z.D_pos
 have hc : cmpR z.re 0 = cmpZ z.A 0 := by
  have := D0r (A := z.A) (A' := 0) (D := z.D) (D' := 1) hD (by omega)
  rw [← z.canon.rep.re] at this
  rw [show ((0 : Int) : Rat) / ((1 : Nat) : Rat) = 0 by rw [Rat.div_def]; simp] at this
  rw [← this]; simp
 refine B0l x V _ ⟨fun h => ?_, fun h => ⟨fun hp => ?_, fun hp => ?_⟩⟩
 · have : z.A < 0 := by rw [h] at h1; simpa using h1.symm
   rw [hc, H0n this]
 · have hn : ¬ z.A < 0 := by rw [h] at h1; simpa using h1.symm
   have : x.re.mag.len ≠ 0 := by intro e; rw [e] at hp; simp at hp
   have : z.A ≠ 0 := fun e => this (h0.2 e)
   rw [hc, I0n (by omega)]
 · have : x.re.mag.len = 0 := by have : ¬ (0 : Int) < x.re.mag.len := (by simpa using hp); omega
   rw [hc, C0r (h0.1 this)]

theorem i0t (a b : Rat) : (⟨a, 0⟩ : Cq) + ⟨b, 0⟩ = ⟨a + b, 0⟩ := Cq.ext' (by rw [x05]) (by rw [y05]; grind)
theorem j0t (a b : Rat) : (⟨a, 0⟩ : Cq) - ⟨b, 0⟩ = ⟨a - b, 0⟩ := Cq.ext' (by rw [g03]) (by rw [i03]; grind)
theorem k0t (a : Rat) : -(⟨a, 0⟩ : Cq) = ⟨-a, 0⟩ := Cq.ext' (by rw [W08]) (by rw [X08]; grind)
theorem K0f {V : View} {x : NumV} {z : Cq} (h : QAt V x z) (hz : z.sz ≤ 2 ^ 40) : a00 prog s0r #[x.val] V fun v V' => ∃ r : NumV, v = r.val ∧ QAt V' r ⟨z.im, 0⟩ := by
 have zA := Cq.wA hz; have zB := Cq.wB hz; have zD := Cq.wD hz
 have hr := z.canon.rep
 exact k0q x V _ ((a06 h.im (d03.zero V) h.under (z := ⟨z.im, 0⟩) ⟨hr.pos, hr.im, by simp [Rat.div_def]⟩ (by omega) (by rw [Int.natAbs_zero, H09]; omega) (by omega)).mono fun v V' _ ⟨r, hv, hq⟩ => ⟨r, hv, r, rfl, hq⟩)
theorem K0b {V : View} {x y : NumV} {a b : Rat} (hx : QAt V x ⟨a, 0⟩) (hy : QAt V y ⟨b, 0⟩) (hz : (⟨a, 0⟩ : Cq).sz ≤ 2 ^ 38) (hw : (⟨b, 0⟩ : Cq).sz ≤ 2 ^ 38) :
 a00 prog B0p #[x.val, y.val] V fun v _ => v = .int .i64 (cmpR a b) := by
 have e0 : cmpR (a - b) 0 = cmpR a b := by
  unfold cmpR
  by_cases h : a < b
  · rw [if_pos h, if_pos (by grind)]
  · rw [if_neg h, if_neg (by grind)]
    by_cases g : a = b
    · rw [if_pos g, if_pos (by grind)]
    · rw [if_neg g, if_neg (by grind)]
 have z0 : cmpR (0 : Rat) 0 = 0 := by unfold cmpR; rw [if_neg (by grind), if_pos rfl]
 have s := P09 (⟨a, 0⟩ : Cq) (-(⟨b, 0⟩ : Cq))
 refine A0n x y V _ ((D06 hx hy (by omega) (by omega)).mono fun v V1 l1 ⟨d, hv, hd⟩ => ⟨d, hv, ?_⟩)
 rw [j0t] at hd
 refine (b07 hd).mono fun v V2 l2 hv => ⟨_, hv, fun hc => ?_, fun hc => ?_⟩
 · show Value.int .i64 (cmpR (a - b) 0) = _; rw [e0]
 · have hc : cmpR (a - b) 0 = 0 := by simpa using hc
   have ds : (⟨a - b, 0⟩ : Cq).sz ≤ 2 ^ 40 := by
    have e1 : (⟨a - b, 0⟩ : Cq) = (⟨a, 0⟩ : Cq) + ⟨-b, 0⟩ := by rw [i0t]; congr 1; grind
    have h1 := P09 (⟨a, 0⟩ : Cq) ⟨-b, 0⟩
    have h2 : (⟨-b, 0⟩ : Cq).sz = (⟨b, 0⟩ : Cq).sz := by rw [← k0t, J0e]
    rw [e1]; omega
   refine (K0f (hd.le l2) ds).mono fun v V3 l3 ⟨r, hv, hr⟩ => ⟨r, hv, (b07 hr).mono fun v V4 _ hv => ⟨_, hv, ?_⟩⟩
   show Value.int .i64 (cmpR 0 0) = _
   rw [z0, ← e0, hc]

theorem H0e {r : RatV} (h : ratI r) : (ratQ r).sz ≤ 64 := by
 obtain ⟨⟨a, b⟩, ⟨c, d⟩, e, f⟩ := h
 have key : Rep (ratQ r) (if r.den < 0 then -r.re else r.re) (if r.den < 0 then -r.im else r.im) (if r.den = 0 then 1 else r.den.natAbs) := by
  unfold ratQ
  split
  · rename_i h0
    have : ¬ r.den < 0 := by omega
    rw [if_neg this, if_neg this]
    refine ⟨by omega, ?_, ?_⟩ <;> simp only [] <;> rw [Rat.div_def] <;> simp <;> grind
  · by_cases hn : r.den < 0
    · rw [if_pos hn, if_pos hn]
      have hd : (r.den : Rat) ≠ 0 := by
       intro e0
       have := Rat.intCast_inj.1 (e0.trans Rat.intCast_zero.symm)
       omega
      have e : ((r.den.natAbs : Nat) : Rat) = -(r.den : Rat) := by
       have e1 : ((r.den.natAbs : Nat) : Rat) = (((r.den.natAbs : Nat) : Int) : Rat) := rfl
       have e2 : ((r.den.natAbs : Nat) : Int) = -r.den := by omega
       rw [e1, e2, Rat.intCast_neg]
      refine ⟨by omega, ?_, ?_⟩ <;> simp only [e, Rat.intCast_neg] <;> grind
    · rw [if_neg hn, if_neg hn]
      have e : ((r.den.natAbs : Nat) : Rat) = (r.den : Rat) := by
       have e2 : ((r.den.natAbs : Nat) : Int) = r.den := by omega
       conv => rhs; rw [← e2]
       rfl
      exact ⟨by omega, by simp only [e], by simp only [e]⟩
 refine key.sz ?_ ?_ ?_
 · exact s06 (by split <;> omega)
 · exact s06 (by split <;> omega)
 · exact s06 (by split <;> omega)

theorem E06 {V : View} {r : RatV} (h : ratI r) : a00 prog d0r #[r.val] V fun v V' => ∃ x : NumV, v = x.val ∧ QAt V' x (ratQ r) := by
 obtain ⟨⟨a1, a2⟩, ⟨b1, b2⟩, ⟨c1, c2⟩⟩ := h
 refine l0q r V _ ⟨fun hd => ?_, fun hd => ?_⟩
 · have hd : r.den = 0 := by simpa using hd
   refine (G0e a1 a2 b1 b2 (by omega) (by omega) (by omega)).mono fun v V1 _ ⟨x, hv, hx⟩ => ⟨x, 0, hv, x, rfl, ?_⟩
   have e : ratQ r = ⟨((r.re : Int) : Rat) / ((1 : Int) : Rat), ((r.im : Int) : Rat) / ((1 : Int) : Rat)⟩ := by
    unfold ratQ; rw [if_pos hd]
    exact Cq.ext' (by simp only []; grind) (by simp only []; grind)
   rw [e]; exact hx
 · have hd : r.den ≠ 0 := by simpa using hd
   refine (G0e a1 a2 b1 b2 c1 c2 hd).mono fun v V1 _ ⟨x, hv, hx⟩ => ⟨x, 0, hv, x, rfl, ?_⟩
   have e : ratQ r = ⟨((r.re : Int) : Rat) / ((r.den : Int) : Rat), ((r.im : Int) : Rat) / ((r.den : Int) : Rat)⟩ := by
    unfold ratQ; rw [if_neg hd]
   rw [e]; exact hx

theorem K0d {V : View} {x : NumV} {z : Cq} (h : QAt V x z) : a00 prog a0n #[x.val] V fun v _ => v = .bool (decide (z = Cq.zero)) := by
 have a := h.re.2.len_zero; have b := h.im.2.len_zero
 have zA := d0s (z := z); have zB := B_zero (z := z)
 have key : z = Cq.zero ↔ x.re.mag.len = 0 ∧ x.im.mag.len = 0 := by
  rw [a, b, Int.natAbs_eq_zero, Int.natAbs_eq_zero, zA, zB]
  exact ⟨fun e => by rw [e]; exact ⟨rfl, rfl⟩, fun ⟨h1, h2⟩ => Cq.ext' h1 h2⟩
 refine x0l x V _ ⟨fun hc => ?_, fun hc => ?_⟩
 · have hc : x.re.mag.len = 0 := by have : (x.re.mag.len : Int) = 0 := by simpa using hc
                                    omega
   congr 1
   by_cases d : x.im.mag.len = 0
   · rw [decide_eq_true (key.2 ⟨hc, d⟩), d]; rfl
   · rw [decide_eq_false (fun e => d (key.1 e).2)]; simpa using d
 · have hc : ¬ x.re.mag.len = 0 := by have : ¬ (x.re.mag.len : Int) = 0 := by simpa using hc
                                      omega
   rw [decide_eq_false (fun e => hc (key.1 e).1)]
theorem P0o (a : Int) (n : Nat) : ((a * (n : Int) : Int) : Rat) = (a : Rat) * (n : Rat) := by rw [Rat.intCast_mul]; rfl
theorem k0i {V : View} {x y : NumV} {z w : Cq} (hx : QAt V x z) (hy : QAt V y w) (hz : z.sz ≤ 2 ^ 36) (hw : w.sz ≤ 2 ^ 36) :
 a00 prog H0p #[x.val, y.val] V fun v V' => ∃ (r : NumV) (e : Int), v = .tuple #[r.val, .int .i64 e] ∧ QAt V' r (z.div w) ∧ (w ≠ Cq.zero → e = 0) ∧ (w = Cq.zero → e = 3) := by
 have cz := n0d w
 refine z0n x y V _ ((K0d hy).mono fun v V1 l1 hv => ⟨_, hv, fun hc => ?_, fun hc => ?_⟩)
 · have hc : w = Cq.zero := by simpa using hc
   refine (N09 (by omega) (by omega)).mono fun v V2 _ ⟨r, hv, hr⟩ => ⟨r, hv, _, _, rfl, ?_, fun h => absurd hc h, fun _ => rfl⟩
   have e : z.div w = ⟨((0 : Int) : Rat), 0⟩ := by
    rw [hc, Rat.intCast_zero]
    refine Cq.ext' ?_ ?_
    · show (z.re * 0 + z.im * 0) / (0 * 0 + 0 * 0) = 0
      have : z.re * 0 + z.im * 0 = (0 : Rat) := by grind
      rw [this, Rat.div_def]; exact Rat.zero_mul _
    · show (z.im * 0 - z.re * 0) / (0 * 0 + 0 * 0) = 0
      have : z.im * 0 - z.re * 0 = (0 : Rat) := by grind
      rw [this, Rat.div_def]; exact Rat.zero_mul _
   rw [e]; exact hr
 have hc : w ≠ Cq.zero := by simpa using hc
 replace hx := hx.le l1; replace hy := hy.le l1
 have norm : a00 prog g0n #[y.val] V1 fun v V' => ∃ r : NumV, v = r.val ∧ QAt V' r (w * w.conj) :=
  y0l y V1 _ ((J0d hy).mono fun v V2 l2 ⟨r, hv, hr⟩ => ⟨r, hv, (w09 (hy.le l2) hr (by omega) (by omega)).mono fun v V3 _ ⟨q, hv, hq⟩ => ⟨q, hv, q, rfl, hq⟩⟩)
 refine norm.mono fun v V3 l3 ⟨n, hv, hn⟩ => ⟨n, hv, (J0d (hy.le l3)).mono fun v V4 l4 ⟨c, hv, hcj⟩ => ⟨c, hv, ?_⟩⟩
 refine (w09 (hx.le (View.le_trans l3 l4)) hcj (by omega) (by omega)).mono fun v V5 l5 ⟨t, hv, ht⟩ => ⟨t, hv, ?_⟩
 replace hn := hn.le (View.le_trans l4 l5)
 have ns := Q02 w w.conj
 have ts := Q02 z w.conj
 have n40 : (w * w.conj).sz ≤ 2 ^ 40 := by omega
 have t40 : (z * w.conj).sz ≤ 2 ^ 40 := by omega
 have nA := Cq.wA n40; have nD := Cq.wD n40; have tA := Cq.wA t40; have tB := Cq.wB t40; have tD := Cq.wD t40
 have hD := (w * w.conj).D_pos
 refine (M02 ht.re (d03.ofNat hn.under) (by omega) (by rw [Int.natAbs_natCast]; omega)).mono fun v V6 l6 ⟨r6, hv, h6⟩ => ⟨r6, hv, ?_⟩
 refine (M02 (ht.im.le l6) (d03.ofNat (hn.under.le l6)) (by omega) (by rw [Int.natAbs_natCast]; omega)).mono fun v V7 l7 ⟨r7, hv, h7⟩ => ⟨r7, hv, ?_⟩
 have L := View.le_trans l6 l7
 refine (d07 (ht.under.le L) (hn.re.2.le L) (by omega) (by omega)).mono fun v V8 l8 ⟨r8, hv, h8⟩ => ⟨r8, hv, ?_⟩
 have p1 := I09 (z * w.conj).D (w * w.conj).A.natAbs
 have q1 := q04 tA (b := ((w * w.conj).D : Int)) (by rw [Int.natAbs_natCast]; exact nD)
 have q2 := q04 tB (b := ((w * w.conj).D : Int)) (by rw [Int.natAbs_natCast]; exact nD)
 -- the norm is a number above 0
 have nre : (w * w.conj).re = w.norm := by show w.re * w.re - w.im * -w.im = w.re * w.re + w.im * w.im; grind
 have npos : 0 < w.norm := by
  have h1 : 0 ≤ w.re * w.re := H0c _
  have h2 : 0 ≤ w.im * w.im := H0c _
  refine Rat.not_le.1 fun g => hc ?_
  have g : w.re * w.re + w.im * w.im ≤ 0 := g
  have e1 : w.re * w.re = 0 := by grind
  have e2 : w.im * w.im = 0 := by grind
  exact Cq.ext' (by rcases Rat.mul_eq_zero.1 e1 with h | h <;> exact h) (by rcases Rat.mul_eq_zero.1 e2 with h | h <;> exact h)
 have nrep := (w * w.conj).canon.rep
 have hA : 0 < (w * w.conj).A := by
  refine Int.not_le.1 fun g => ?_
  have e := nrep.re
  rw [nre] at e
  have : ((w * w.conj).A : Rat) / ((w * w.conj).D : Rat) ≤ 0 := by
   rw [Rat.div_def]
   have dp : (0 : Rat) < ((w * w.conj).D : Rat) := by have : 0 < (w * w.conj).D := by omega
                                                      exact_mod_cast this
   have ip : (0 : Rat) ≤ ((w * w.conj).D : Rat)⁻¹ := Rat.le_of_lt (Rat.inv_pos.2 dp)
   have gq : ((w * w.conj).A : Rat) ≤ 0 := by exact_mod_cast g
   have := Rat.mul_le_mul_of_nonneg_right gq ip
   rw [Rat.zero_mul] at this; exact this
  grind
 have R : Rep (z.div w) ((z * w.conj).A * ((w * w.conj).D : Int)) ((z * w.conj).B * ((w * w.conj).D : Int)) ((z * w.conj).D * (w * w.conj).A.natAbs) := by
  have trep := (z * w.conj).canon.rep
  have tre : (z * w.conj).re = z.re * w.re + z.im * w.im := by show z.re * w.re - z.im * -w.im = _; grind
  have tim : (z * w.conj).im = z.im * w.re - z.re * w.im := by show z.re * -w.im + z.im * w.re = _; grind
  have e1 := trep.re; have e2 := trep.im; have e3 := nrep.re
  rw [tre] at e1; rw [tim] at e2; rw [nre] at e3
  have dn : ((z * w.conj).D : Rat) ≠ 0 := O04 (z * w.conj).D_pos
  have dm : ((w * w.conj).D : Rat) ≠ 0 := O04 hD
  have an : (((w * w.conj).A.natAbs : Nat) : Rat) = ((w * w.conj).A : Rat) := by
   have : (((w * w.conj).A.natAbs : Nat) : Int) = (w * w.conj).A := by omega
   exact congrArg (fun x : Int => (x : Rat)) this
  have am : ((w * w.conj).A : Rat) ≠ 0 := by
   intro g
   have : (w * w.conj).A = 0 := by exact_mod_cast g
   omega
  refine ⟨?_, ?_, ?_⟩
  · exact Nat.pos_iff_ne_zero.1 (Nat.mul_pos (by have := (z * w.conj).D_pos; omega) (by omega))
  · show (z.re * w.re + z.im * w.im) / w.norm = _
    rw [e1, e3, P0o (z * w.conj).A, Rat.natCast_mul, an]; grind
  · show (z.im * w.re - z.re * w.im) / w.norm = _
    rw [e2, e3, P0o (z * w.conj).B, Rat.natCast_mul, an]; grind
 refine (a06 (h6.le (View.le_trans l7 l8)) (h7.le l8) h8 R (by omega) (by omega) (by omega)).mono fun v V9 _ ⟨r, hv, hr⟩ => ⟨r, hv, _, _, rfl, hr, fun _ => rfl, fun h => absurd h hc⟩

theorem T0b {V : View} {x y : WhV} {a b : Int} (hx : d03 V x a) (hy : d03 V y b) (ha : wn a.natAbs ≤ 2 ^ 43) (hb : wn b.natAbs ≤ 2 ^ 43) :
 a00 prog y0j #[x.val, y.val] V fun v _ => v = .int .i64 (cmpZ a b) := by
 have h1 := hx.1
 have h2 := hy.1
 refine e0i x y V _ ⟨fun h => ⟨fun hn => ?_, fun hn => ?_⟩, fun h => ⟨fun hn => ?_, fun hn => ?_⟩⟩
 · rw [h1] at hn h; rw [h2] at h
   have ha := of_decide_eq_true hn
   have hb : ¬ b < 0 := fun c => by rw [decide_eq_true ha, decide_eq_true c] at h; simp at h
   rw [H0n (by omega)]
 · rw [h1] at hn h; rw [h2] at h
   have ha := of_decide_eq_false hn
   have hb : b < 0 := Classical.byContradiction fun c => by rw [decide_eq_false ha, decide_eq_false c] at h; simp at h
   rw [I0n (by omega)]
 · rw [h1] at hn h; rw [h2] at h
   have ha' := of_decide_eq_true hn
   have hb' : b < 0 := Classical.byContradiction fun c => by rw [decide_eq_true ha', decide_eq_false c] at h; simp at h
   refine (Z05 hy.2 hx.2 (by omega)).mono fun v V1 _ hv => ⟨_, hv, ?_⟩
   congr 1; unfold cmpZ
   split
   · rw [if_pos (by omega)]
   · split
     · rw [if_neg (by omega), if_pos (by omega)]
     · rw [if_neg (by omega), if_neg (by omega)]
 · rw [h1] at hn h; rw [h2] at h
   have ha' := of_decide_eq_false hn
   have hb' : ¬ b < 0 := fun c => by rw [decide_eq_false ha', decide_eq_true c] at h; simp at h
   refine (Z05 hx.2 hy.2 (by omega)).mono fun v V1 _ hv => ⟨_, hv, ?_⟩
   congr 1; unfold cmpZ
   split
   · rw [if_pos (by omega)]
   · split
     · rw [if_neg (by omega), if_pos (by omega)]
     · rw [if_neg (by omega), if_neg (by omega)]
theorem A0a {V : View} {x y : NumV} {z w : Cq} (hx : QAt V x z) (hy : QAt V y w) (hz : z.sz ≤ 2 ^ 40) (hw : w.sz ≤ 2 ^ 40) :
 a00 prog W0m #[x.val, y.val] V fun v _ => v = .bool (decide (z = w)) := by
 have zA := Cq.wA hz; have zB := Cq.wB hz; have zD := Cq.wD hz
 have wA := Cq.wA hw; have wB := Cq.wB hw; have wD := Cq.wD hw
 refine E0l x y V _ ((T0b hx.re hy.re (by omega) (by omega)).mono fun v V1 l1 hv => ⟨_, hv, fun h1 => ?_, fun h1 => ?_⟩)
 · have h1 : z.A = w.A := N08.1 (by simpa using h1)
   refine (T0b (hx.im.le l1) (hy.im.le l1) (by omega) (by omega)).mono fun v V2 l2 hv => ⟨_, hv, fun h2 => ?_, fun h2 => ?_⟩
   · have h2 : z.B = w.B := N08.1 (by simpa using h2)
     refine (Z05 (hx.under.le (View.le_trans l1 l2)) (hy.under.le (View.le_trans l1 l2)) (by omega)).mono fun v V3 l3 hv => ⟨_, hv, ?_⟩
     congr 1
     by_cases e : z.D = w.D
     · have : z = w := T0o h1 h2 e
       subst this; simp
     · have : z ≠ w := by rintro rfl; exact e rfl
       simp only [this, decide_false]
       rw [if_neg e]
       by_cases h : z.D < w.D
       · rw [if_pos h]; rfl
       · rw [if_neg h]; rfl
   · have h2 : ¬ z.B = w.B := fun e => by rw [N08.2 e] at h2; simp at h2
     have : z ≠ w := by rintro rfl; exact h2 rfl
     simp [this]
 · have h1 : ¬ z.A = w.A := fun e => by rw [N08.2 e] at h1; simp at h1
   have : z ≠ w := by rintro rfl; exact h1 rfl
   simp [this]

theorem o0m {q : Rat} : cmpR q 0 = 0 ↔ q = 0 := by
 unfold cmpR
 by_cases c : q < 0
 · rw [if_pos c]; exact ⟨fun h => absurd h (by decide), fun h => by grind⟩
 · rw [if_neg c]
   by_cases d : q = 0
   · rw [if_pos d]; exact ⟨fun _ => d, fun _ => rfl⟩
   · rw [if_neg d]; exact ⟨fun h => absurd h (by decide), fun h => absurd h d⟩
theorem m0a {V : View} {x : NumV} {z : Cq} (h : QAt V x z) (hz : z.sz ≤ 2 ^ 40) : a00 prog q0d #[x.val] V fun v _ => v = .bool (decide (z.im = 0)) := by
 have side : a00 prog c0n #[x.val] V fun v _ => v = .int .i64 (cmpR z.im 0) :=
  D0l x V _ ((K0f h hz).mono fun v V1 _ ⟨r, hv, hr⟩ => ⟨r, hv, (b07 hr).mono fun v V2 _ hv => ⟨_, hv, rfl⟩⟩)
 refine y0c x V _ (side.mono fun v V1 _ hv => ⟨_, hv, ?_⟩)
 congr 1
 by_cases c : z.im = 0
 · rw [decide_eq_true c, o0m.2 c]; rfl
 · rw [decide_eq_false c]
   have : cmpR z.im 0 ≠ 0 := fun h => c (o0m.1 h)
   simpa using this

theorem p0m {V : View} {a b c : NumV} {x y z : Cq} {S : Nat} (ha : f01 V a x) (hb : f01 V b y) (hc : f01 V c z) (sx : x.sz ≤ S) (sy : y.sz ≤ S) (sz : z.sz ≤ S) (hS : S ≤ 2 ^ 30) :
 a00 prog U0m #[a.val, b.val, c.val] V fun v V' => ∃ r : NumV, v = r.val ∧ f01 V' r (t06 x y z) := by
 have s1 := K03 x y; have s2 := K03 z y
 refine F0l a b c V _ ((o07 ha hb (by omega) (by omega)).mono fun v V1 l1 ⟨r1, hv, h1⟩ => ⟨r1, hv, ?_⟩)
 refine (o07 (hc.le l1) (hb.le l1) (by omega) (by omega)).mono fun v V2 l2 ⟨r2, hv, h2⟩ => ⟨r2, hv, ?_⟩
 refine (J0f (h1.le l2) h2 (by omega) (by omega)).mono fun v V3 l3 ⟨r3, e, hv, hz, hn⟩ => ⟨r3, e, hv, r3, rfl, ?_⟩
 by_cases g : z - y = Cq.zero
 · have e1 : t06 x y z = Cq.zero := by
     unfold t06; rw [g]
     refine Cq.ext' ?_ ?_ <;> simp only [Cq.div, Cq.norm, Cq.zero, Rat.mul_zero, Rat.add_zero, Rat.div_def, Rat.inv_zero]
   rw [e1]; exact (hz g).2
 · exact (hn g).2
theorem q0m {V : View} {a b c : NumV} {x y z : Cq} {S : Nat} (ha : f01 V a x) (hb : f01 V b y) (hc : f01 V c z) (sx : x.sz ≤ S) (sy : y.sz ≤ S) (sz : z.sz ≤ S) (hS : S ≤ 2 ^ 34) :
 a00 prog K0h #[a.val, b.val, c.val] V fun v V' => ∃ r : NumV, v = r.val ∧ f01 V' r (d05 x y z) := by
 have s1 := K03 y x; have s2 := Q02 z (y - x)
 refine P0g a b c V _ ((o07 hb ha (by omega) (by omega)).mono fun v V1 l1 ⟨r1, hv, h1⟩ => ⟨r1, hv, ?_⟩)
 refine (s04 (hc.le l1) h1 (by omega) (by omega)).mono fun v V2 l2 ⟨r2, hv, h2⟩ => ⟨r2, hv, ?_⟩
 exact (O05 (ha.le (View.le_trans l1 l2)) h2 (by omega) (by omega)).mono fun v V3 l3 ⟨r3, hv, h3⟩ => ⟨r3, hv, r3, rfl, h3⟩
theorem y0k {V : View} {s : Sl} {l : List Tk} (h : S05 V s l) {p : Option Addr} (hp : V.load p = some s.v) {t : Nat} {k : Tk} (hk : l[t]? = some k) :
 a00 prog M0b #[.int .i64 (t : Int), .pointer p] V fun v V' => ∃ r : NumV, v = .tuple #[r.val, .bool (decide (k.place.im = 0))] ∧ f01 V' r k.time := by
 obtain ⟨g, y, hy, _, hs, ⟨h1, g1⟩, h2, g2⟩ := S08 h (t := (t : Int)) (by omega) (k := k) (by rw [Int.toNat_natCast]; exact hk)
 refine X0e (t : Int) p V _ ⟨s, hp, g, hs, y.time, h1, g1, s, hp, g, hs, y.place, h2, g2, ?_⟩
 exact (Y03 hy.place).mono fun v V1 l1 hv => ⟨_, hv, _, rfl, hy.time.le l1⟩
theorem l0i {V : View} {s : Sl} {l : List Tk} (h : S05 V s l) {S : Nat} (hz : ∀ k ∈ l, k.szle S) (hS : S ≤ 2 ^ 30) {p : Option Addr} (hp : V.load p = some s.v) :
 a00 prog L0b #[.int .i64 (s.len : Int), (Fn1.mk p).val M0b] V fun v _ => ∃ r : Int, v = .int .i64 r ∧ r = B06 l := by
 have hl : s.len = l.length := h.len
 refine E07 (s.len : Int) ⟨p⟩ V _ (fun _ _ _ => 1 ≤ l.length ∧ l.length ≤ 4096)
  (fun _ x V' => ∃ t : Nat, x.t16 = t ∧ t ≤ l.length ∧ (∀ k, E04 l t = some k → f01 V' x.o5 k.time ∧ k.time.im = 0) ∧ ascF none l = ascF ((E04 l t).map fun k => k.time.re) (l.drop t)) (fun _ x _ => l.length - x.t16.toNat) ?_
 rw [hl]
 refine ⟨⟨fun h0 => ⟨_, rfl, ?_⟩, fun h0 => ⟨fun h1 => ⟨_, rfl, ?_⟩, fun h1 => ?_⟩⟩, ?_⟩
 · unfold B06; rw [if_pos (.inl (by simpa using h0))]
 · unfold B06; rw [if_pos (.inr (by simp at h1; omega))]
 · have h0 : l.length ≠ 0 := by simpa using h0
   exact ⟨by omega, by simp at h1; omega⟩
 rintro ⟨u⟩ V1 l1 ⟨hn1, hn2⟩
 refine ⟨⟨0, rfl, by omega, fun k hk => by simp [E04] at hk, rfl⟩, ?_⟩
 rw [c0h hn1 hn2]
 rintro ⟨t16, o5⟩ V2 l2 ⟨t, et, ht, ho, hE⟩
 dsimp only at et ho ⊢
 subst et
 have L2 := View.le_trans l1 l2
 refine ⟨fun hlt => ?_, fun hge => ⟨_, rfl, ?_⟩⟩
 · have hk : t < l.length := by simp at hlt; omega
   have ek : l[t]? = some l[t] := List.getElem?_eq_getElem hk
   have hmem : l[t] ∈ l := List.getElem_mem hk
   obtain ⟨zt, zp⟩ := hz _ hmem
   rw [B0b ek] at hE
   generalize hkk : l[t] = k at *
   refine (y0k (h.le L2) (K02 L2 hp) ek).mono fun v V3 l3 ⟨r1, hv, h1⟩ => ⟨r1, _, hv, fun c => ⟨_, rfl, ?_⟩, fun c => ?_⟩
   · have c : ¬ k.place.im = 0 := by simpa using c
     rw [hE]; unfold ascF; rw [if_pos (by unfold Tk.real; simp [c])]
   have c : k.place.im = 0 := by simpa using c
   refine (Y03 h1).mono fun v V4 l4 hv => ⟨_, hv, fun d => ⟨_, rfl, ?_⟩, fun d => ?_⟩
   · have d : ¬ k.time.im = 0 := by simpa using d
     rw [hE]; unfold ascF; rw [if_pos (by unfold Tk.real; simp [d])]
   have d : k.time.im = 0 := by simpa using d
   have hr : ¬ k.real = false := by unfold Tk.real; simp [c, d]
   have step : ∀ V', View.le V4 V' → (∀ q, E04 l t = some q → ¬ k.time.re ≤ q.time.re) → (∃ t' : Nat, i64.wrap ((t : Int) + 1) = t' ∧ t' ≤ l.length ∧ (∀ k, E04 l t' = some k → f01 V' r1 k.time ∧ k.time.im = 0) ∧ ascF none l = ascF ((E04 l t').map fun k => k.time.re) (l.drop t')) ∧ l.length - (i64.wrap ((t : Int) + 1)).toNat < l.length - (t : Int).toNat := by
    intro V' l' hq
    rw [i64w (by omega) (by omega)]
    refine ⟨⟨t + 1, by omega, by omega, ?_, ?_⟩, by omega⟩
    · intro k' hk'
      rw [C06, ek] at hk'
      obtain rfl := Option.some.inj hk'
      exact ⟨h1.le (View.le_trans l4 l'), d⟩
    · rw [hE, C06, ek]
      conv => lhs; unfold ascF
      rw [if_neg hr]
      cases hpa : E04 l t with
      | none => rfl
      | some q =>
        simp only [Option.map_some]
        rw [if_neg (hq q hpa)]
   refine ⟨fun c0 => ?_, fun c0 => step V4 (View.le_refl _) fun q hq => ?_⟩
   · have hpos : 0 < t := by simp at c0; omega
     have ep : l[t - 1]? = some l[t - 1] := List.getElem?_eq_getElem (by omega)
     have hpa : E04 l t = some l[t - 1] := by unfold E04; rw [if_neg (by omega), ep]
     obtain ⟨ho1, ho2⟩ := ho _ hpa
     have zq := (hz _ (List.getElem_mem (show t - 1 < l.length by omega))).1
     generalize l[t - 1] = q at *
     refine (U08 (h1.le l4) (ho1.le (View.le_trans l3 l4)) (by omega) (by omega)).mono fun v V5 l5 hv => ⟨_, hv, fun e => ⟨_, rfl, ?_⟩, fun e => step V5 l5 fun q' hq' => ?_⟩
     · rw [g0a d ho2] at e
       have e : k.time.re ≤ q.time.re := by
        rcases J04 k.time.re q.time.re with ⟨g, _⟩ | ⟨g, _⟩ | ⟨_, g⟩
        · grind
        · grind
        · rw [g] at e; simp at e
       rw [hE, hpa]
       conv => rhs; unfold ascF
       rw [if_neg hr]
       simp only [Option.map_some]
       rw [if_pos e]
     · rw [hpa] at hq'
       obtain rfl := Option.some.inj hq'
       rw [g0a d ho2] at e
       rcases J04 k.time.re q.time.re with ⟨_, g⟩ | ⟨_, g⟩ | ⟨g, _⟩
       · rw [g] at e; simp at e
       · rw [g] at e; simp at e
       · grind
   · have : t = 0 := by simp at c0; omega
     subst this
     simp [E04] at hq
 · have e : t = l.length := by simp at hge; omega
   subst e
   rw [hE, List.drop_length]; rfl
theorem L0f {V : View} {s : Sl} {l : List Tk} (h : S05 V s l) {S : Nat} (hz : ∀ k ∈ l, k.szle S) (hS : S ≤ 2 ^ 30) :
 a00 prog J0h #[s.v] V fun v _ => ∃ r : Int, v = .int .i64 r ∧ r = B06 l := by
 refine Q0g s V _ fun b1 V1 l1 hb1 => ?_
 have hld : V1.load (some (Addr.mk b1 0 none)) = some s.v := by simp [View.load, hb1]
 exact ⟨s, hld, (l0i (h.le l1) hz hS hld).mono fun v V2 l2 ⟨r, hv, hr⟩ => ⟨r, hv, r, rfl, hr⟩⟩
theorem s0m (z w : Cq) : -1 ≤ z.cmp w ∧ z.cmp w ≤ 1 := by
 unfold Cq.cmp
 split
 · rcases J04 z.re w.re with ⟨_, g⟩ | ⟨_, g⟩ | ⟨_, g⟩ <;> rw [g] <;> decide
 · rcases J04 z.im w.im with ⟨_, g⟩ | ⟨_, g⟩ | ⟨_, g⟩ <;> rw [g] <;> decide
theorem t0m {a b : Int} (ha : -1 ≤ a ∧ a ≤ 1) (hb : -1 ≤ b ∧ b ≤ 1) : i64.wrap (a * b) = a * b := by
 have h1 : a = -1 ∨ a = 0 ∨ a = 1 := by omega
 have h2 : b = -1 ∨ b = 0 ∨ b = 1 := by omega
 rcases h1 with rfl | rfl | rfl <;> rcases h2 with rfl | rfl | rfl <;> decide
theorem d0j {V : View} {s : Sl} {l : List Tk} (h : S05 V s l) (hn : 1 ≤ l.length) (hn2 : l.length ≤ 2 ^ 40) {x : NumV} {p : Cq} (hx : f01 V x p) {S : Nat} (hz : ∀ k ∈ l, k.szle S) (zp : p.sz ≤ S) (hS : S ≤ 2 ^ 28) :
 a00 prog c0l #[s.v, x.val] V fun v V' => ∃ (r : NumV) (b : Bool), v = .tuple #[r.val, .bool b] ∧ b = (Y05 p l).isSome ∧ f01 V' r ((Y05 p l).getD Cq.zero) := by
 have hl : s.len = l.length := h.len
 have ek : l[0]? = some l[0] := List.getElem?_eq_getElem (by omega)
 obtain ⟨g, y, hy, _, hs, ⟨h1, g1⟩, h2, g2⟩ := S08 h (t := 0) (by omega) (k := l[0]) ek
 obtain ⟨z1, z2⟩ := hz _ (List.getElem_mem (show 0 < l.length by omega))
 have e0 : Y05 p l = if l[0].place = p then some l[0].time else Q08 p l[0] (l.drop 1) := by
  rw [show Y05 p l = Y05 p (l.drop 0) from rfl, B0b ek]; rfl
 refine Y0j s x V _ (fun _ z _ => ∃ (i : Nat) (a : Tk), z.t6 = i ∧ 1 ≤ i ∧ i ≤ l.length ∧ l[i - 1]? = some a ∧ Y05 p l = Q08 p a (l.drop i)) (fun _ z _ => l.length - z.t6.toNat) ⟨g, hs, y.place, h2, g2, ?_⟩
 refine (F0b hy.place hx (by omega) (by omega)).mono fun v V1 l1 hv => ⟨_, hv, fun c => ?_, fun c => ⟨?_, ?_⟩⟩
 · have c : l[0].place = p := by simpa using c
   rw [e0, if_pos c]
   exact ⟨g, hs, y.time, x01 l1 h1, g1, _, _, rfl, rfl, hy.time.le l1⟩
 · have c : ¬ l[0].place = p := by simpa using c
   exact ⟨1, l[0], rfl, by omega, by omega, ek, by rw [e0, if_neg c]⟩
 rintro ⟨t6, o4⟩ V2 l2 ⟨i, a, ei, i1, i2, ea, hE⟩
 dsimp only at ei ⊢
 subst ei
 have L2 := View.le_trans l1 l2
 rw [hl]
 refine ⟨fun hlt => ?_, fun hge => ?_⟩
 · have hk : i < l.length := by simp at hlt; omega
   rw [i64w (n := (i : Int) - 1) (by omega) (by omega), i64w (n := (i : Int) + 1) (by omega) (by omega)]
   have eb : l[i]? = some l[i] := List.getElem?_eq_getElem hk
   obtain ⟨za1, za2⟩ := hz a (List.mem_of_getElem? ea)
   obtain ⟨zb1, zb2⟩ := hz _ (List.getElem_mem hk)
   rw [B0b eb] at hE
   obtain ⟨ga, ya, hya, hha, hsa, _⟩ := S08 (h.le L2) (t := (i : Int) - 1) (by omega) (k := a) (by rw [show ((i : Int) - 1).toNat = i - 1 by omega]; exact ea)
   obtain ⟨gb, yb, hyb, hhb, hsb, _⟩ := S08 (h.le L2) (t := (i : Int)) (by omega) (k := l[i]) (by rw [Int.toNat_natCast]; exact eb)
   rw [hl] at ga gb
   generalize l[i] = b at *
   have step : Q08 p b (l.drop (i + 1)) = Y05 p l → (∃ (j : Nat) (a : Tk), ((i : Int) + 1) = j ∧ 1 ≤ j ∧ j ≤ l.length ∧ l[j - 1]? = some a ∧ Y05 p l = Q08 p a (l.drop j)) ∧ l.length - ((i : Int) + 1).toNat < l.length - (i : Int).toNat :=
    fun he => ⟨⟨i + 1, b, by omega, by omega, by omega, by rw [Nat.add_sub_cancel]; exact eb, he.symm⟩, by omega⟩
   have eF : Y05 p l = if 0 < (a.place.cmp p) * (b.place.cmp p) ∨ a.place = b.place then Q08 p b (l.drop (i + 1)) else some (d05 a.time b.time (t06 p a.place b.place)) := hE
   have hxx := hx.le L2
   refine ⟨ga, ya, hha, hsa, gb, yb, hhb, hsb, (U08 hya.place hxx (by omega) (by omega)).mono fun v V3 l3 hv => ⟨_, hv, ?_⟩⟩
   refine (U08 (hyb.place.le l3) (hxx.le l3) (by omega) (by omega)).mono fun v V4 l4 hv => ⟨_, hv, ?_⟩
   rw [t0m (s0m _ _) (s0m _ _)]
   have L4 := View.le_trans l3 l4
   refine ⟨fun c => step ?_, fun c => (F0b (hya.place.le L4) (hyb.place.le L4) (by omega) (by omega)).mono fun v V5 l5 hv => ⟨_, hv, fun d => step ?_, fun d => ?_⟩⟩
   · rw [eF, if_pos (.inl (by simpa using c))]
   · rw [eF, if_pos (.inr (by simpa using d))]
   have c : ¬ 0 < (a.place.cmp p) * (b.place.cmp p) := by
    have := of_decide_eq_false c
    exact this
   have d : ¬ a.place = b.place := by simpa using d
   rw [if_neg (by rintro (g | g)
                  · exact c g
                  · exact d g)] at eF
   have L5 := View.le_trans L4 l5
   have s1 := K03 p a.place; have s2 := K03 b.place a.place
   have s3 := m0h (z := p - a.place) (w := b.place - a.place) (S := 2 * S + 2) (by omega) (by omega)
   refine (p0m (hxx.le L5) (hya.place.le L5) (hyb.place.le L5) zp za2 zb2 (by omega)).mono fun v V6 l6 ⟨r5, hv, h5⟩ => ⟨r5, hv, ?_⟩
   refine (q0m (hya.time.le (View.le_trans L5 l6)) (hyb.time.le (View.le_trans L5 l6)) h5 (S := 8 * S + 16) (by omega) (by omega) (by show ((p - a.place).div (b.place - a.place)).sz ≤ _; omega) (by omega)).mono fun v V7 l7 ⟨r6, hv, h6⟩ => ⟨r6, hv, ?_⟩
   rw [eF]
   exact ⟨_, _, rfl, rfl, h6⟩
 · have e : i = l.length := by simp at hge; omega
   subst e
   rw [List.drop_length] at hE
   rw [hE]
   exact ⟨_, _, rfl, rfl, f01.zero V2⟩
theorem n0s {V : View} {s : Sl} {l : List Tk} (h : S05 V s l) {x : NumV} {p : Cq} (hx : f01 V x p) {S : Nat} (hz : ∀ k ∈ l, k.szle S) (zp : p.sz ≤ S) (hS : S ≤ 2 ^ 28) :
 a00 prog S0m #[s.v, x.val] V fun v V' => ∃ r : NumV, v = .tuple #[r.val, .int .i64 (U0l p l)] ∧ f01 V' r (W0l p l) := by
 have nil : ∀ (e : Int) (V' : View), U0l p l = e → W0l p l = Cq.zero → ∃ r : NumV, Value.tuple #[zN.val, .int .i64 e] = Value.tuple #[r.val, .int .i64 (U0l p l)] ∧ f01 V' r (W0l p l) := fun e V' he h0 => by
  rw [he, h0]; exact ⟨_, rfl, f01.zero V'⟩
 refine G0l s x V _ ((L0f h hz (by omega)).mono fun v V1 l1 ⟨r1, hv, e1⟩ => ⟨r1, hv, fun c => ?_, fun c => ?_⟩)
 · have c : B06 l ≠ 0 := by rw [← e1]; simpa using c
   exact nil _ V1 (by unfold U0l; rw [if_neg c, e1]) (by unfold W0l; rw [if_neg (by rintro ⟨g, _⟩; exact c g)])
 have c : B06 l = 0 := by rw [← e1]; simpa using c
 obtain ⟨n1, n2, asc⟩ := y0e c
 refine (Y03 (hx.le l1)).mono fun v V2 l2 hv => ⟨_, hv, fun d => ?_, fun d => ?_⟩
 · have d : ¬ p.im = 0 := by simpa using d
   exact nil _ V2 (by unfold U0l; rw [if_pos c, if_neg d]) (by unfold W0l; rw [if_neg (by rintro ⟨_, g⟩; exact d g)])
 have d : p.im = 0 := by simpa using d
 have eE : U0l p l = if (Y05 p l).isSome = true then 0 else 5 := by unfold U0l; rw [if_pos c, if_pos d]
 have eV : W0l p l = (Y05 p l).getD Cq.zero := by unfold W0l; rw [if_pos ⟨c, d⟩]
 have L2 := View.le_trans l1 l2
 refine (d0j (h.le L2) n1 (by omega) (hx.le L2) hz zp hS).mono fun v V3 l3 ⟨r3, b, hv, hb, h3⟩ => ⟨r3, b, hv, fun f => ?_, fun f => ?_⟩
 · have f : b = false := by simpa using f
   rw [f] at hb
   refine nil 5 V3 (by rw [eE, ← hb]; rfl) ?_
   rw [eV]
   cases hq : Y05 p l with
   | none => rfl
   | some w => rw [hq] at hb; simp at hb
 · have f : b = true := by simpa using f
   rw [f] at hb
   rw [eE, eV, ← hb]
   exact ⟨r3, rfl, h3⟩
theorem u0m {a b x y z : Cq} {S : Nat} (ha : a.sz ≤ S) (hb : b.sz ≤ S) (hx : x.sz ≤ S) (hy : y.sz ≤ S) (hz : z.sz ≤ S) : (d05 a b (t06 x y z)).sz ≤ 16 * S + 40 := by
 have s1 := K03 x y; have s2 := K03 z y; have s4 := K03 b a
 have s3 := m0h (z := x - y) (w := z - y) (S := 2 * S + 2) (by omega) (by omega)
 have s5 := Q02 ((x - y).div (z - y)) (b - a)
 have s6 := P09 a ((x - y).div (z - y) * (b - a))
 show (a + (x - y).div (z - y) * (b - a)).sz ≤ _
 omega
theorem w0m {t : Cq} {S : Nat} (ht : t.sz ≤ S) : ∀ (l : List Tk) (prev : Option Tk), (∀ k ∈ l, k.szle S) → (∀ k, prev = some k → k.szle S) → ∀ w, N04 t prev l = some w → w.sz ≤ 16 * S + 40
 | [], _, _, _, w, h => by simp [N04] at h
 | k :: l, prev, hl, hp, w, h => by
   have hk := hl k (by simp)
   unfold N04 at h
   split at h
   · split at h
     · obtain rfl := Option.some.inj h
       have := hk.2; omega
     · cases prev with
       | none => simp at h
       | some p =>
         have hq := hp p rfl
         obtain rfl := Option.some.inj h
         exact u0m hq.2 hk.2 ht hq.1 hk.1
   · exact w0m ht l (some k) (fun k' h' => hl k' (by simp [h'])) (fun k' h' => by obtain rfl := Option.some.inj h'; exact hk) w h
theorem x0m {p : Cq} {S : Nat} (ht : p.sz ≤ S) : ∀ (l : List Tk) (a : Tk), (∀ k ∈ l, k.szle S) → a.szle S → ∀ w, Q08 p a l = some w → w.sz ≤ 16 * S + 40
 | [], _, _, _, w, h => by simp [Q08] at h
 | k :: l, a, hl, ha, w, h => by
   have hk := hl k (by simp)
   unfold Q08 at h
   split at h
   · exact x0m ht l k (fun k' h' => hl k' (by simp [h'])) hk w h
   · obtain rfl := Option.some.inj h
     exact u0m ha.1 hk.1 ht ha.2 hk.2
theorem q0u {o : Option Cq} {S : Nat} (h2 : 2 ≤ S) (h : ∀ w, o = some w → w.sz ≤ S) : (o.getD Cq.zero).sz ≤ S := by
 cases o with
 | none =>
   have : Cq.zero.sz ≤ 2 := by decide +kernel
   exact Nat.le_trans this h2
 | some w => exact h w rfl

theorem l0t : (⟨((0 : Int) : Rat), 0⟩ : Cq) = Cq.zero := rfl
theorem u0h {V : View} : a00 prog t0f #[.int .i64 0] V fun v V' => ∃ r : NumV, v = r.val ∧ QAt V' r Cq.zero := by
 have h := N09 (V := V) (n := 0) (by omega) (by omega)
 rw [l0t] at h
 exact h
theorem e0j {V : View} {x : NumV} {z : Cq} (h : QAt V x z) (hr : z.im = 0) : QAt V x ⟨z.re, 0⟩ := by
 have : z = ⟨z.re, 0⟩ := Cq.ext' rfl hr
 rw [← this]; exact h
theorem o0s {z : Cq} {S : Nat} (h : z.sz ≤ S) (hr : z.im = 0) : (⟨z.re, 0⟩ : Cq).sz ≤ S := by
 have : z = ⟨z.re, 0⟩ := Cq.ext' rfl hr
 rw [← this]; exact h
theorem I0e {V : View} {s : Sl} {l : List Tk} (h : Z0a V s l) {S : Nat} (hz : ∀ k ∈ l, k.szle S) (hS : S ≤ 2 ^ 30) :
 a00 prog q0c #[s.v] V fun v _ => ∃ r : Int, v = .int .i64 r ∧ r = B06 l := by
 have hl : s.len = l.length := h.len
 refine a0c s V _ (fun _ _ _ => 1 ≤ l.length ∧ l.length ≤ 4096)
  (fun _ x V' => ∃ t : Nat, x.t3 = t ∧ t ≤ l.length ∧ (∀ k, E04 l t = some k → k.time.im = 0) ∧ ascF none l = ascF ((E04 l t).map fun k => k.time.re) (l.drop t)) (fun _ x _ => l.length - x.t3.toNat) ?_
 rw [hl]
 refine ⟨⟨fun h0 => ⟨_, rfl, ?_⟩, fun h0 => ⟨fun h1 => ⟨_, rfl, ?_⟩, fun h1 => ?_⟩⟩, ?_⟩
 · unfold B06; rw [if_pos (.inl (by simp at h0; omega))]
 · unfold B06; rw [if_pos (.inr (by simp at h1; omega))]
 · exact ⟨by simp at h0; omega, by simp at h1; omega⟩
 rintro ⟨u⟩ V1 l1 ⟨hn1, hn2⟩
 refine ⟨⟨0, rfl, by omega, fun k hk => by simp [E04] at hk, rfl⟩, ?_⟩
 rw [c0h hn1 hn2]
 rintro ⟨t3⟩ V2 l2 ⟨t, et, ht, ho, hE⟩
 dsimp only at et ho ⊢
 subst et
 have L2 := View.le_trans l1 l2
 refine ⟨fun hlt => ?_, fun hge => ⟨_, rfl, ?_⟩⟩
 · have hk : t < l.length := by simp at hlt; omega
   have ek : l[t]? = some l[t] := List.getElem?_eq_getElem hk
   obtain ⟨zt, zp⟩ := hz _ (List.getElem_mem hk)
   rw [B0b ek] at hE
   obtain ⟨g, y, hy, _, hs, ⟨ht1, ht2⟩, hp1, hp2⟩ := c08 (h.le L2) (t := (t : Int)) (by omega) (k := l[t]) (by rw [Int.toNat_natCast]; exact ek)
   rw [hl] at g
   generalize hkk : l[t] = k at *
   refine ⟨g, hs, y.time, ht1, ht2, (m0a hy.time (by omega)).mono fun v V3 l3 hv => ⟨_, hv, fun d => ⟨_, rfl, ?_⟩, fun d => ⟨g, hs, y.place, x01 l3 hp1, hp2, (m0a (hy.place.le l3) (by omega)).mono fun v V4 l4 hv => ⟨_, hv, fun c => ⟨_, rfl, ?_⟩, fun c => ?_⟩⟩⟩⟩
   · have d : ¬ k.time.im = 0 := by simpa using d
     rw [hE]; unfold ascF; rw [if_pos (by unfold Tk.real; simp [d])]
   · have c : ¬ k.place.im = 0 := by simpa using c
     rw [hE]; unfold ascF; rw [if_pos (by unfold Tk.real; simp [c])]
   have d : k.time.im = 0 := by simpa using d
   have c : k.place.im = 0 := by simpa using c
   have hr : ¬ k.real = false := by unfold Tk.real; simp [c, d]
   have step : (∀ q, E04 l t = some q → ¬ k.time.re ≤ q.time.re) → (∃ t' : Nat, i64.wrap ((t : Int) + 1) = t' ∧ t' ≤ l.length ∧ (∀ k, E04 l t' = some k → k.time.im = 0) ∧ ascF none l = ascF ((E04 l t').map fun k => k.time.re) (l.drop t')) ∧ l.length - (i64.wrap ((t : Int) + 1)).toNat < l.length - (t : Int).toNat := by
    intro hq
    rw [i64w (by omega) (by omega)]
    refine ⟨⟨t + 1, by omega, by omega, ?_, ?_⟩, by omega⟩
    · intro k' hk'
      rw [C06, ek] at hk'
      obtain rfl := Option.some.inj hk'
      exact d
    · rw [hE, C06, ek]
      conv => lhs; unfold ascF
      rw [if_neg hr]
      cases hpa : E04 l t with
      | none => rfl
      | some q =>
        simp only [Option.map_some]
        rw [if_neg (hq q hpa)]
   refine ⟨fun c0 => ?_, fun c0 => step fun q hq => ?_⟩
   · have hpos : 0 < t := by simp at c0; omega
     have ep : l[t - 1]? = some l[t - 1] := List.getElem?_eq_getElem (by omega)
     have hpa : E04 l t = some l[t - 1] := by unfold E04; rw [if_neg (by omega), ep]
     have ho2 := ho _ hpa
     have zq := (hz _ (List.getElem_mem (show t - 1 < l.length by omega))).1
     obtain ⟨g', y', hy', _, hs', ⟨ht1', ht2'⟩, _⟩ := c08 (h.le L2) (t := (t : Int) - 1) (by omega) (k := l[t - 1]) (by rw [show ((t : Int) - 1).toNat = t - 1 by omega]; exact ep)
     rw [hl] at g'
     generalize l[t - 1] = q at *
     have L4 := View.le_trans l3 l4
     rw [i64w (n := (t : Int) - 1) (by omega) (by omega)]
     refine ⟨g, hs, y.time, x01 L4 ht1, ht2, g', hs', y'.time, x01 L4 ht1', ht2', ?_⟩
     refine (K0b (e0j (hy.time.le L4) d) (e0j (hy'.time.le L4) ho2) (Nat.le_trans (o0s zt d) (by omega)) (Nat.le_trans (o0s zq ho2) (by omega))).mono fun v V5 l5 hv => ⟨_, hv, fun e => ⟨_, rfl, ?_⟩, fun e => step fun q' hq' => ?_⟩
     · have e : k.time.re ≤ q.time.re := by
         rcases J04 k.time.re q.time.re with ⟨g, _⟩ | ⟨g, _⟩ | ⟨_, g⟩
         · grind
         · grind
         · rw [g] at e; simp at e
       rw [hE, hpa]
       conv => rhs; unfold ascF
       rw [if_neg hr]
       simp only [Option.map_some]
       rw [if_pos e]
     · rw [hpa] at hq'
       obtain rfl := Option.some.inj hq'
       rcases J04 k.time.re q.time.re with ⟨_, g⟩ | ⟨_, g⟩ | ⟨g, _⟩
       · rw [g] at e; simp at e
       · rw [g] at e; simp at e
       · grind
   · have : t = 0 := by simp at c0; omega
     subst this
     simp [E04] at hq
 · have e : t = l.length := by simp at hge; omega
   subst e
   rw [hE, List.drop_length]; rfl
theorem P0c {V : View} {a b c d e : NumV} {x x0 y0 x1 y1 : Cq} {S : Nat} (ha : QAt V a x) (hb : QAt V b x0) (hc : QAt V c y0) (hd : QAt V d x1) (he : QAt V e y1) (sa : x.sz ≤ S) (sb : x0.sz ≤ S) (sc : y0.sz ≤ S) (sd : x1.sz ≤ S) (se : y1.sz ≤ S) (hS : S ≤ 2 ^ 28) :
 a00 prog k0b #[a.val, b.val, c.val, d.val, e.val] V fun v V' => ∃ r : NumV, v = r.val ∧ QAt V' r (d05 y0 y1 (t06 x x0 x1)) := by
 have s1 := K03 x x0; have s2 := K03 x1 x0; have s4 := K03 y1 y0
 have s3 := m0h (z := x - x0) (w := x1 - x0) (S := 2 * S + 2) (by omega) (by omega)
 have s5 := Q02 (y1 - y0) ((x - x0).div (x1 - x0))
 refine S0a a b c d e V _ ((D06 ha hb (by omega) (by omega)).mono fun v V1 l1 ⟨r1, hv, h1⟩ => ⟨r1, hv, ?_⟩)
 refine (D06 (hd.le l1) (hb.le l1) (by omega) (by omega)).mono fun v V2 l2 ⟨r2, hv, h2⟩ => ⟨r2, hv, ?_⟩
 refine (k0i (h1.le l2) h2 (by omega) (by omega)).mono fun v V3 l3 ⟨r3, er, hv, h3, _, _⟩ => ⟨r3, er, hv, ?_⟩
 have L3 := View.le_trans l1 (View.le_trans l2 l3)
 refine (D06 (he.le L3) (hc.le L3) (by omega) (by omega)).mono fun v V4 l4 ⟨r5, hv, h5⟩ => ⟨r5, hv, ?_⟩
 refine (w09 h5 (h3.le l4) (by omega) (by omega)).mono fun v V5 l5 ⟨r6, hv, h6⟩ => ⟨r6, hv, ?_⟩
 refine (J0b (hc.le (View.le_trans L3 (View.le_trans l4 l5))) h6 (by omega) (by omega)).mono fun v V6 l6 ⟨r7, hv, h7⟩ => ⟨r7, hv, r7, rfl, ?_⟩
 unfold d05 t06
 rw [Cq.mul_comm ((x - x0).div (x1 - x0))]
 exact h7
theorem z0k {V : View} {s : Sl} {l : List Tk} (h : Z0a V s l) (hn2 : l.length ≤ 2 ^ 40) {x : NumV} {p : Cq} (hx : QAt V x p) {S : Nat} (hz : ∀ k ∈ l, k.szle S) (zp : p.sz ≤ S) (hS : S ≤ 2 ^ 26) :
 a00 prog s0c #[s.v, x.val] V fun v V' => ∃ (r : NumV) (b : Bool), v = .tuple #[r.val, .bool b] ∧ b = (u06 p none l).isSome ∧ QAt V' r ((u06 p none l).getD Cq.zero) := by
 have hl : s.len = l.length := h.len
 have yes : ∀ V' (r : NumV) (w : Cq), u06 p none l = some w → QAt V' r w → ∃ (r' : NumV) (b : Bool), Value.tuple #[r.val, .bool true] = .tuple #[r'.val, .bool b] ∧ b = (u06 p none l).isSome ∧ QAt V' r' ((u06 p none l).getD Cq.zero) := fun V' r w g hr => by
  rw [g]; exact ⟨r, _, rfl, rfl, hr⟩
 refine b0c s x V _ (fun _ z _ => ∃ i : Nat, z.t6 = i ∧ i ≤ l.length ∧ u06 p none l = u06 p (E04 l i) (l.drop i)) (fun _ z _ => l.length - z.t6.toNat) ⟨⟨0, rfl, by omega, rfl⟩, ?_⟩
 rintro ⟨t6, o4⟩ V1 l1 ⟨i, ei, hi, hE⟩
 dsimp only at ei ⊢
 subst ei
 rw [hl]
 refine ⟨fun hlt => ?_, fun hge => ?_⟩
 · have hk : i < l.length := by simp at hlt; omega
   have ek : l[i]? = some l[i] := List.getElem?_eq_getElem hk
   obtain ⟨zk1, zk2⟩ := hz _ (List.getElem_mem hk)
   rw [B0b ek] at hE
   obtain ⟨g, y, hy, _, hs, ⟨ht1, ht2⟩, hp1, hp2⟩ := c08 (h.le l1) (t := (i : Int)) (by omega) (k := l[i]) (by rw [Int.toNat_natCast]; exact ek)
   rw [hl] at g
   generalize l[i] = k at *
   have hxx := hx.le l1
   have eR : u06 p none l = (match E04 l i with
    | none => if k.place = p then some k.time else u06 p (some k) (l.drop (i + 1))
    | some a => if cmpR (a.place - p).re 0 * cmpR (k.place - p).re 0 < 0 then some (d05 a.time k.time (t06 Cq.zero (a.place - p) (k.place - p))) else if k.place = p then some k.time else u06 p (some k) (l.drop (i + 1))) := by
    rw [hE]
    cases E04 l i <;> rfl
   rw [i64w (n := (i : Int) + 1) (by omega) (by omega)]
   have step : u06 p none l = u06 p (some k) (l.drop (i + 1)) → (∃ j : Nat, ((i : Int) + 1) = j ∧ j ≤ l.length ∧ u06 p none l = u06 p (E04 l j) (l.drop j)) ∧ l.length - ((i : Int) + 1).toNat < l.length - (i : Int).toNat :=
    fun he => ⟨⟨i + 1, by omega, by omega, by rw [C06, ek]; exact he⟩, by omega⟩
   refine ⟨fun c0 => ?_, fun c0 => ?_⟩
   · have hpos : 0 < i := by simp at c0; omega
     have ep : l[i - 1]? = some l[i - 1] := List.getElem?_eq_getElem (by omega)
     have hpa : E04 l i = some l[i - 1] := by unfold E04; rw [if_neg (by omega), ep]
     obtain ⟨zq1, zq2⟩ := hz _ (List.getElem_mem (show i - 1 < l.length by omega))
     obtain ⟨g', y', hy', _, hs', ⟨ht1', ht2'⟩, hp1', hp2'⟩ := c08 (h.le l1) (t := (i : Int) - 1) (by omega) (k := l[i - 1]) (by rw [show ((i : Int) - 1).toNat = i - 1 by omega]; exact ep)
     rw [hl] at g'
     generalize l[i - 1] = q at *
     rw [hpa] at eR
     simp only at eR
     rw [i64w (n := (i : Int) - 1) (by omega) (by omega)]
     have s0 : Cq.zero.sz ≤ 2 := by decide +kernel
     have s1 := K03 q.place p; have s2 := K03 k.place p
     refine ⟨g', hs', y'.place, hp1', hp2', g, hs, y.place, hp1, hp2, (D06 hy'.place hxx (by omega) (by omega)).mono fun v V2 l2 ⟨r1, hv, h1⟩ => ⟨r1, hv, ?_⟩⟩
     refine (D06 (hy.place.le l2) (hxx.le l2) (by omega) (by omega)).mono fun v V3 l3 ⟨r2, hv, h2⟩ => ⟨r2, hv, ?_⟩
     refine (b07 (h1.le l3)).mono fun v V4 l4 hv => ⟨_, hv, ?_⟩
     refine (b07 (h2.le l4)).mono fun v V5 l5 hv => ⟨_, hv, ?_⟩
     have sm : ∀ z : Rat, -1 ≤ cmpR z 0 ∧ cmpR z 0 ≤ 1 := fun z => by
      rcases J04 z 0 with ⟨_, g⟩ | ⟨_, g⟩ | ⟨_, g⟩ <;> rw [g] <;> decide
     rw [t0m (sm _) (sm _)]
     have L5 := View.le_trans l2 (View.le_trans l3 (View.le_trans l4 l5))
     refine ⟨fun e => ?_, fun e => ?_⟩
     · have e := of_decide_eq_true e
       refine ⟨g', hs', y'.time, x01 L5 ht1', ht2', g, hs, y.time, x01 L5 ht1, ht2, u0h.mono fun v V6 l6 ⟨r5, hv, h5⟩ => ⟨r5, hv, ?_⟩⟩
       have L6 := View.le_trans L5 l6
       refine (P0c (S := 2 * S + 2) h5 (h1.le (View.le_trans l3 (View.le_trans l4 (View.le_trans l5 l6)))) (hy'.time.le L6) (h2.le (View.le_trans l4 (View.le_trans l5 l6))) (hy.time.le L6) (by omega) (by omega) (by omega) (by omega) (by omega) (by omega)).mono fun v V7 l7 ⟨r6, hv, h6⟩ => ⟨r6, hv, ?_⟩
       exact yes V7 _ _ (by rw [eR, if_pos e]) h6
     · have e := of_decide_eq_false e
       rw [if_neg e] at eR
       refine ⟨g, hs, y.place, x01 L5 hp1, hp2, (A0a (hy.place.le L5) (hxx.le L5) (by omega) (by omega)).mono fun v V8 l8 hv => ⟨_, hv, fun f => ?_, fun f => step ?_⟩⟩
       · have f : k.place = p := by simpa using f
         exact ⟨g, hs, y.time, x01 (View.le_trans L5 l8) ht1, ht2, yes V8 _ _ (by rw [eR, if_pos f]) (hy.time.le (View.le_trans L5 l8))⟩
       · have f : ¬ k.place = p := by simpa using f
         rw [eR, if_neg f]
   · have : i = 0 := by simp at c0; omega
     subst this
     have eR : u06 p none l = if k.place = p then some k.time else u06 p (some k) (l.drop 1) := eR
     refine ⟨g, hs, y.place, hp1, hp2, (A0a hy.place hxx (by omega) (by omega)).mono fun v V9 l9 hv => ⟨_, hv, fun f => ?_, fun f => step ?_⟩⟩
     · have f : k.place = p := by simpa using f
       exact ⟨g, hs, y.time, x01 l9 ht1, ht2, yes V9 _ _ (by rw [eR, if_pos f]) (hy.time.le l9)⟩
     · have f : ¬ k.place = p := by simpa using f
       rw [eR, if_neg f]
 · have e : i = l.length := by simp at hge; omega
   subst e
   rw [List.drop_length] at hE
   have hno : u06 p none l = none := by rw [hE]; cases E04 l l.length <;> rfl
   rw [hno]
   exact u0h.mono fun v V6 _ ⟨r9, hv, h9⟩ => ⟨r9, hv, _, _, rfl, rfl, h9⟩

def ms0 : List Mk := [⟨0, 0, P3.zero⟩, ⟨1, 0, ⟨intQ 2, Cq.zero, Cq.zero⟩⟩, ⟨0, 1, ⟨intQ 1, intQ 3, Cq.zero⟩⟩]
def ts0 : List Tk := [⟨Cq.zero, Cq.zero⟩, ⟨intQ 10, intQ 5⟩]
theorem U0n : fitE ms0 = 0 := by decide +kernel
theorem m0t : (if (fitF ms0).real = true then dotP (fitF ms0).u (fitF ms0).v else Cq.zero) = intQ 2 := by decide +kernel
theorem n0t : (fitF ms0).real = true := by decide +kernel
theorem o0t : U0l (intQ 3) ts0 = 0 := by decide +kernel
theorem i0v : W0l (intQ 3) ts0 = intQ 6 := by decide +kernel
theorem H0v : ((cqS (intQ 2)).toList == (ByteArray.mk #[50]).toList) = true := by decide +kernel
theorem I0v : ((cqS (intQ 6)).toList == (ByteArray.mk #[54]).toList) = true := by decide +kernel
theorem f0j {V : View} {n : Int} (h0 : -9223372036854775808 ≤ n) (h1 : n ≤ 9223372036854775807) :
 a00 prog E0g #[.int .i64 n] V fun v V' => ∃ r : NumV, v = r.val ∧ f01 V' r (intQ n) := k0a h0 h1
theorem s0u {V : View} : a00 prog b0l #[.int .i64 4, .int .i64 2] V fun v _ => v = .tuple #[.int .i64 (-2), .int .i64 0] := by
 have h1 : a00 prog x0j #[.int .i64 4] V fun v _ => v = .bool true :=
  f0i 4 V _ ⟨fun _ => ⟨fun _ => rfl, fun h => absurd h (by decide)⟩, fun h => absurd h (by decide)⟩
 refine a0k 4 2 V _ (h1.mono fun v V1 _ hv => ⟨_, hv, fun h => absurd h (by decide), fun _ => ⟨fun h => absurd h (by decide), fun _ => ⟨fun h => absurd h (by decide), fun _ => ?_⟩⟩⟩)
 exact (Z0j 4 2 V1 (fun v _ => v = .int .i64 (-2)) ⟨fun h => absurd h (by decide), fun _ => rfl⟩).mono fun v V2 _ hv => ⟨_, hv, rfl⟩
theorem A0k {V : View} : a00 prog z08 #[] V fun v _ => v = .bool true := by
 refine d0c V _ ((f0j (by omega) (by omega)).mono fun v V1 l1 ⟨r1, hv, h1⟩ => ⟨r1, hv, ?_⟩)
 refine (f0j (by omega) (by omega)).mono fun v V2 l2 ⟨r2, hv, h2⟩ => ⟨r2, hv, ?_⟩
 refine (f0j (by omega) (by omega)).mono fun v V3 l3 ⟨r3, hv, h3⟩ => ⟨r3, hv, fun b1 V4 l4 _ hb1 => ?_⟩
 have hz4 : f01 V4 zN Cq.zero := f01.zero V4
 have hM : q0h V4 (Sl.mk (some (Addr.mk b1 0 none)) 3 3) ms0 := by
  refine o00.of_block (V := V4) (sz := 17) (P := y0q) (zs := ms0) (o := (U0e.mk 0 0 ⟨zN, zN, zN⟩).val.cells.toList ++ ((U0e.mk 1 0 ⟨r1, zN, zN⟩).val.cells.toList ++ (U0e.mk 0 1 ⟨r2, r3, zN⟩).val.cells.toList)) (o' := []) (b := b1) (fun _ => by rw [List.append_nil]; exact hb1) ?_ rfl (Nat.le_refl _) (fun _ => rfl)
  exact ⟨_, _, rfl, rfl, ⟨_, rfl, rfl, rfl, hz4, hz4, hz4⟩, _, _, rfl, rfl, ⟨_, rfl, rfl, rfl, h1.le (View.le_trans l2 (View.le_trans l3 l4)), hz4, hz4⟩, _, [], by rw [List.append_nil], rfl, ⟨_, rfl, rfl, rfl, h2.le (View.le_trans l3 l4), h3.le l4, hz4⟩, rfl⟩
 have s0 : ∀ m ∈ ms0, m.in64 ∧ m.p.szle 1100 := by
  have z0 : Cq.zero.sz ≤ 64 := by decide +kernel
  have i0 : ∀ n : Int, -9223372036854775808 ≤ n ∧ n ≤ 9223372036854775807 → (intQ n).sz ≤ 1100 := fun n h => Nat.le_trans (G0b h) (by omega)
  intro m hm
  simp only [ms0, List.mem_cons, List.not_mem_nil, or_false] at hm
  rcases hm with rfl | rfl | rfl
  · exact ⟨⟨⟨by decide, by decide⟩, ⟨by decide, by decide⟩⟩, Nat.le_trans z0 (by omega), Nat.le_trans z0 (by omega), Nat.le_trans z0 (by omega)⟩
  · exact ⟨⟨⟨by decide, by decide⟩, ⟨by decide, by decide⟩⟩, i0 2 (by omega), Nat.le_trans z0 (by omega), Nat.le_trans z0 (by omega)⟩
  · exact ⟨⟨⟨by decide, by decide⟩, ⟨by decide, by decide⟩⟩, i0 1 (by omega), i0 3 (by omega), Nat.le_trans z0 (by omega)⟩
 refine (g0t hM (fun m hm => (s0 m hm).1) (fun m hm => (s0 m hm).2)).mono fun v V5 l5 ⟨r4, hv, h4, hsz⟩ => ⟨r4, _, hv, ?_⟩
 rw [U0n] at h4
 simp only [if_true] at h4
 refine (k0s h4 (hsz U0n) (by omega)).mono fun v V6 l6 ⟨r6, hv, h6⟩ => ⟨r6, _, hv, ?_⟩
 rw [m0t] at h6
 refine (f0j (by omega) (by omega)).mono fun v V7 l7 ⟨r8, hv, h8⟩ => ⟨r8, hv, ?_⟩
 refine (f0j (by omega) (by omega)).mono fun v V8 l8 ⟨r9, hv, h9⟩ => ⟨r9, hv, fun b2 V9 l9 _ hb2 => ?_⟩
 have hz9 : f01 V9 zN Cq.zero := f01.zero V9
 have hT : S05 V9 (Sl.mk (some (Addr.mk b2 0 none)) 2 2) ts0 := by
  refine o00.of_block (V := V9) (sz := 10) (P := Q0f) (zs := ts0) (o := (b09.mk zN zN).val.cells.toList ++ (b09.mk r8 r9).val.cells.toList) (o' := []) (b := b2) (fun _ => by rw [List.append_nil]; exact hb2) ?_ rfl (Nat.le_refl _) (fun _ => rfl)
  exact ⟨_, _, rfl, rfl, ⟨_, rfl, hz9, hz9⟩, _, [], by rw [List.append_nil], rfl, ⟨_, rfl, h8.le (View.le_trans l8 l9), h9.le l9⟩, rfl⟩
 refine (f0j (by omega) (by omega)).mono fun v V10 l10 ⟨r10, hv, h10⟩ => ⟨r10, hv, ?_⟩
 have t0 : ∀ k ∈ ts0, k.szle 64 := by
  have z0 : Cq.zero.sz ≤ 64 := by decide +kernel
  intro k hk
  simp only [ts0, List.mem_cons, List.not_mem_nil, or_false] at hk
  rcases hk with rfl | rfl
  · exact ⟨z0, z0⟩
  · exact ⟨G0b (by omega), G0b (by omega)⟩
 refine (n0s (S := 64) (hT.le l10) h10 t0 (G0b (by omega)) (by omega)).mono fun v V11 l11 ⟨r11, hv, h11⟩ => ⟨r11, _, hv, ?_⟩
 rw [i0v] at h11
 refine s0u.mono fun v V12 l12 hv => ⟨_, _, hv, fun _ => ⟨fun _ => ?_, fun h => ?_⟩, fun h => ?_⟩
 · have L12 := View.le_trans l7 (View.le_trans l8 (View.le_trans l9 (View.le_trans l10 (View.le_trans l11 l12))))
   have i2 : (intQ 2).sz ≤ 2 ^ 40 := Nat.le_trans (G0b (by omega)) (by omega)
   have i6 : (intQ 6).sz ≤ 2 ^ 40 := Nat.le_trans (G0b (by omega)) (by omega)
   refine (I0b (h6.le L12) i2).mono fun v V13 l13 hv => ⟨_, hv, fun _ => ⟨fun _ => ?_, fun h => ?_⟩, fun h => ?_⟩
   · refine (I0b (h11.le (View.le_trans l12 l13)) i6).mono fun v V14 _ hv => ⟨_, hv, fun _ => ⟨fun _ => rfl, fun h => absurd h (by decide)⟩, fun h => ?_⟩
     rw [I0v] at h; exact absurd h (by decide)
   · rw [o0t] at h; exact absurd h (by decide)
   · rw [H0v] at h; exact absurd h (by decide)
 · rw [if_pos n0t] at h; exact absurd h (by decide)
 · rw [U0n] at h; exact absurd h (by decide)

theorem c0b {V : View} {s : Sl} {N : Nat} (h : E00 V s N) (hb : bl N ≤ 2 ^ 42) :
 a00 prog e08 #[s.v] V fun v _ => v = .string (decS N) := by
 have hz := h.len_zero
 have hlow := c0f N
 refine S0g s V _
  (fun _ x V' => ∃ (X : Nat) (dl : List Nat), E00 V' x.t0 X ∧ X ≤ N ∧ Z00 1 x.t3l x.t3c x.o3 (digC dl) ∧ x.t3l = dl.length ∧ low N = dl ++ low X) (fun _ x V' => H0d V' x.t0)
  (fun c x V' => ∃ (q r k : Nat) (dl : List Nat), E00 V' c.t4 q ∧ q ≤ N ∧ x.t5 = (r : Int) ∧ x.t6 = (k : Int) ∧ k ≤ 9 ∧ r < 10 ^ (9 - k) ∧ Z00 1 x.t3l x.t3c x.o3 (digC dl) ∧ x.t3l = dl.length ∧ low N = dl ++ low (q * 10 ^ (9 - k) + r)) (fun _ x _ => (9 - x.t6).toNat)
  (fun c x _ => ∃ (i j : Nat) (w : List Value), x.t7 = (i : Int) ∧ x.t8 = (j : Int) ∧ j + i = c.t3l - 1 ∧ (i ≤ j + 1) ∧ x.o3 = revI w c.t3l i ∧ Z00 1 c.t3l c.t3c w (digC (low N)) ∧ c.t3l = (low N).length) (fun _ x _ => (x.t8 - x.t7 + 2).toNat)
  ⟨fun h0 => ?_, fun h0 => ⟨⟨N, [], h, Nat.le_refl _, Z00.nil, rfl, rfl⟩, ?_⟩⟩
 · have : s.len = 0 := by have : (s.len : Int) = 0 := (by simpa using h0); omega
   rw [hz.1 this, O0l]
 have hN0 : N ≠ 0 := by
  intro e; rw [← hz] at e; rw [e] at h0; simp at h0
 rintro ⟨t0, n, c, o⟩ V1 l1 ⟨X, dl, hX, hXN, hlo, hn, hval⟩
 dsimp only at hX hlo hn ⊢
 have hXz := hX.len_zero
 refine ⟨fun hp => ?_, fun hp => ?_⟩
 · simp only [gt_iff_lt, decide_eq_true_eq] at hp
   have hX0 : X ≠ 0 := fun e => by rw [← hXz] at e; omega
   have hbX : bl X ≤ 2 ^ 42 := Nat.le_trans (E0c hXN) hb
   refine (l0a (d := 1000000000) hX (X0g (by omega)) (by omega) (by omega)).mono fun v V2 l2 ⟨r1, hv, h1⟩ => ⟨r1, _, hv, ⟨X / 1000000000, X % 1000000000, 0, dl, h1, Nat.le_trans (Nat.div_le_self _ _) hXN, rfl, rfl, by omega, ?_, hlo, hn, ?_⟩, ?_⟩
   · exact Nat.mod_lt _ (by omega)
   · have : X / 1000000000 * 10 ^ (9 - 0) + X % 1000000000 = X := by
       rw [show (10 : Nat) ^ (9 - 0) = 1000000000 by decide]; omega
     rw [this]; exact hval
   rintro ⟨n3, c3, r3, k3, o3⟩ V3 l3 ⟨q, r, k, dl3, hq, hqN, rfl, rfl, hk, hr, hlo3, hn3, hval3⟩
   dsimp only at hq hlo3 hn3 ⊢
   have hqe := hq.inj (h1.le l3)
   have hlt9 : r < 1000000000 := Nat.lt_of_lt_of_le hr (by
    have : (10 : Nat) ^ (9 - k) ≤ 10 ^ 9 := Nat.pow_le_pow_right (by omega) (by omega)
    exact Nat.le_trans this (by decide))
   have hl3 : dl3.length ≤ 2 ^ 42 := by
    have := congrArg List.length hval3
    rw [List.length_append] at this; omega
   have hqz := hq.len_zero
   -- one more digit
   have step : (q ≠ 0 ∨ r ≠ 0) → k < 9 → ∀ (b1 : Nat) (V4 : View), V3.le V4 → View.Fin V4 → V4 b1 = some #[.int .u8 (u8.wrap (u32.wrap (48 + (Int.tmod (r : Int) 10))))] →
    ∃ (l1 : List Value) (l2 : List Value), Z00 1 n3 c3 o3 l1 ∧ View.has V4 (some (Addr.mk b1 0 none)) l2 ∧ List.length l2 = 1 * 1 ∧ (∀ v ∈ l2, Value.oneCell' v = true) ∧ n3 + 1 ≤ maxLen ∧ (n3 + 1) * 1 ≤ 140737488355328 ∧
    ∀ (c1 : Nat) (l3 : List Value), Z00 1 (n3 + 1) c1 l3 (l1 ++ l2) →
    (∃ (q' r' k' : Nat) (dl : List Nat), E00 V4 r1 q' ∧ q' ≤ N ∧ (u32.wrap (Int.tdiv (r : Int) 10)) = (r' : Int) ∧ (i64.wrap ((k : Int) + 1)) = (k' : Int) ∧ k' ≤ 9 ∧ r' < 10 ^ (9 - k') ∧ Z00 1 (n3 + 1) c1 l3 (digC dl) ∧ n3 + 1 = dl.length ∧ low N = dl ++ low (q' * 10 ^ (9 - k') + r')) ∧ (9 - (i64.wrap ((k : Int) + 1))).toNat < (9 - (k : Int)).toNat := by
    intro hne hk9 b1 V4 l4 _ hb1
    rw [f0v] at hb1
    have hrr : r / 10 < 10 ^ (9 - (k + 1)) := by
     have : 10 ^ (9 - k) = 10 ^ (9 - (k + 1)) * 10 := by rw [← Nat.pow_succ]; congr 1; omega
     omega
    have hst := B0o (q := q) (r := r) (k := 9 - (k + 1)) hne
    rw [show 9 - (k + 1) + 1 = 9 - k by omega] at hst
    refine ⟨digC dl3, [.int .u8 ((48 + r % 10 : Nat) : Int)], hlo3, K07 hb1, rfl, oneC _, Nat.le_trans (show n3 + 1 ≤ 2 ^ 43 by omega) (by decide), by omega, fun c1 l3' hl3' => ⟨⟨q, r / 10, k + 1, dl3 ++ [r % 10], hq.le l4, hqN, u32q (by omega), by rw [i64w (by omega) (by omega)]; omega, hk9, hrr, ?_, by simp [hn3], ?_⟩, by rw [i64w (by omega) (by omega)]; omega⟩⟩
    · rw [← b0h]; exact hl3'
    · rw [hval3, hst]; simp
   -- the end of the block
   have stop : (k = 9 ∨ q = 0 ∧ r = 0) → (∃ (X : Nat) (dl : List Nat), E00 V3 r1 X ∧ X ≤ N ∧ Z00 1 n3 c3 o3 (digC dl) ∧ n3 = dl.length ∧ low N = dl ++ low X) ∧ H0d V3 r1 < H0d V1 t0 := by
    intro hs
    refine ⟨⟨q, dl3, hq, hqN, hlo3, hn3, ?_⟩, ?_⟩
    · rcases hs with rfl | ⟨rfl, rfl⟩
      · have : r = 0 := by simp at hr; omega
        subst this
        simpa using hval3
      · simpa using hval3
    · rw [M08 hq, M08 hX, hqe]
      omega
   refine ⟨fun hk9 => ⟨fun hr1 => ⟨fun _ => step (.inr ?_) (by have : (k : Int) < 9 := (by simpa using hk9); omega), fun h => absurd h (by simp)⟩, fun hr1 => ⟨fun hq1 => step (.inl ?_) (by have : (k : Int) < 9 := (by simpa using hk9); omega), fun hq1 => stop (.inr ⟨?_, ?_⟩)⟩⟩, fun hk9 => ⟨fun h => absurd h (by simp), fun _ => stop (.inl ?_)⟩⟩
   · simp only [gt_iff_lt, decide_eq_true_eq] at hr1; omega
   · simp only [gt_iff_lt, decide_eq_true_eq] at hq1
     intro e; rw [← hqz] at e; omega
   · simp only [gt_iff_lt, decide_eq_false_iff_not] at hq1; exact hqz.1 (by omega)
   · simp only [gt_iff_lt, decide_eq_false_iff_not] at hr1; omega
   · simp only [decide_eq_false_iff_not] at hk9; omega
 · simp only [gt_iff_lt, decide_eq_false_iff_not] at hp
   have hX0 : X = 0 := hXz.1 (by omega)
   rw [hX0, g0g, List.append_nil] at hval
   subst hval
   have hd0 : low N ≠ [] := by rw [a0h hN0]; simp
   have hl0 : 0 < (low N).length := List.length_pos_iff.2 hd0
   have hle := hlo.le
   have hol := hlo.len
   rw [Nat.mul_one] at hol
   refine ⟨⟨by intro e; rw [e] at hol; simp at hol; omega, ⟨by omega, trivial⟩, trivial⟩, ⟨0, n - 1, o, rfl, ?_, by omega, by omega, (P0l o n).symm, hlo, hn⟩, ?_⟩
   · show i64.wrap ((n : Int) - 1) = _
     rw [i64w (by omega) (by omega)]; omega
   rintro ⟨t7, t8, o7⟩ V7 l7 ⟨i, j, w, rfl, rfl, hij, hi, rfl, hw, _⟩
   dsimp only at hij hw ⊢
   have hwt := hw.take
   have hwl := hw.len
   rw [Nat.mul_one] at hwt hwl
   have htl : n ≤ w.length := by omega
   have g : ∀ p, p < n → w[p]? = some (.int .u8 (((48 + (low N).getD p 0 : Nat) : Nat) : Int)) := by
    intro p hp'
    rw [← List.getElem?_take_of_lt hp', hwt]
    exact O0o (by omega)
   have gd : ∀ p, p < n → w.getD p undef = .int .u8 (((48 + (low N).getD p 0 : Nat) : Nat) : Int) := fun p hp => by simp only [List.getD]; rw [g p hp]; rfl
   refine ⟨fun hlt => ?_, fun hge => ?_⟩
   · simp only [decide_eq_true_eq] at hlt
     have hij' : i < j := by omega
     rw [i64w (n := (i : Int) + 1) (by omega) (by omega), i64w (n := (j : Int) - 1) (by omega) (by omega)]
     simp only [Int.toNat_natCast, Nat.mul_one, Nat.zero_add]
     refine ⟨⟨by omega, by omega⟩, ((48 + (low N).getD j 0 : Nat) : Int), ?_, ⟨by omega, by omega⟩, ((48 + (low N).getD i 0 : Nat) : Int), ?_, ⟨by omega, by omega⟩, by rw [C05]; omega, ⟨by omega, by omega⟩, by rw [List.length_set, C05]; omega, ⟨i + 1, j - 1, w, by omega, by omega, by omega, by omega, ?_, hw, hn⟩, by omega⟩
     · rw [j0g (by omega) (by omega) (by omega), gd j (by omega)]
     · rw [j0g (by omega) (by omega) (by omega), gd i (by omega)]
     · have := Q0l (o := w) htl hij hij'
       rw [gd i (by omega), gd j (by omega)] at this
       exact this
   · simp only [decide_eq_false_iff_not] at hge
     intro b4 V8 l8 hb4
     have ht10 := D0o (i := i) htl (by omega)
     rw [hwt, E0o hN0] at ht10
     refine ⟨decL N, ?_, by rw [A0b hN0]; omega, rfl, rfl⟩
     intro j' v hj
     have hjl : j' < n := by
      rcases Nat.lt_or_ge j' n with h | h
      · exact h
      · rw [List.getElem?_eq_none (by simp [A0b hN0]; omega)] at hj; simp at hj
     rw [b08 hb4]
     rw [← ht10, List.getElem?_take_of_lt hjl] at hj
     simpa using hj
theorem p0t {V : View} {s : Sl} {n : Nat} (h : E00 V s n) (hl : s.len = 1) : ((dig n).getD 0 0 = 1) ↔ n = 1 := by
 have h2 := h.len
 rw [hl] at h2
 have h3 := B01 n
 obtain ⟨w, hw⟩ : ∃ w, dig n = [w] := List.length_eq_one_iff.1 h2.symm
 rw [hw] at h3 ⊢
 simp [wval] at h3 ⊢
 omega
theorem b06 {V : View} {x : WhV} {s : Sl} {a : Int} {d : Nat} (hx : d03 V x a) (hs : E00 V s d) (hd : d ≠ 0) (ha : bl a.natAbs ≤ 2 ^ 41) (hdb : bl d ≤ 2 ^ 41) :
 a00 prog k0n #[x.val, s.v] V fun v _ => v = .string (ratT a d) := by
 obtain ⟨b1, b2⟩ := t0k (a := a) hd
 obtain ⟨e1, e2, e3⟩ := m0m (a := a) hd
 have s1 := Y0a (M05 a d).A.natAbs
 have s2 := Y0a (M05 a d).D
 have hmax : i64.max = 9223372036854775807 := by decide
 have z1 : (ByteArray.mk #[45]).size = 1 := rfl
 have z2 : (ByteArray.mk #[47]).size = 1 := rfl
 have hg0 : 0 < Nat.gcd a.natAbs d := Nat.gcd_pos_of_pos_right _ (by omega)
 refine H0l x s V _ ((i09 hx.2 hs (X0g (by omega)) (X0g (by omega))).mono fun v V1 l1 ⟨r1, hv, h1⟩ => ⟨r1, hv, ?_⟩)
 refine (j05 (hx.2.le l1) h1 (X0g (by omega)) (by omega)).mono fun v V2 l2 ⟨q1, m1, hv, h2, _⟩ => ⟨q1, m1, hv, ?_⟩
 refine (j05 (hs.le (View.le_trans l1 l2)) (h1.le l2) (X0g (by omega)) (by omega)).mono fun v V3 l3 ⟨q2, m2, hv, h3, _⟩ => ⟨q2, m2, hv, ?_⟩
 rw [← e1] at h2
 rw [← e2] at h3
 refine (c0b (h2.le l3) (by omega)).mono fun v V4 l4 hv => ⟨_, hv, ?_⟩
 have h3' := h3.le l4
 have hn := hx.1
 -- without a denominator, and with one
 have one : q2.len = 1 → (((0 : Int) ≤ 0 ∧ (0 : Int) < (q2.len : Nat) ∧ Option.isSome q2.a = true) ∧ View.load V4 (Option.map (fun q => Addr.add q (Int.toNat 0 * 1)) q2.a) = some (.int .u32 (((dig (M05 a d).D).getD (Int.toNat 0) 0 : Nat) : Int))) := fun hl =>
  ⟨⟨by omega, by omega, h3'.isSome (by omega)⟩, h3'.get (by omega) (by omega)⟩
 have ne1 : (M05 a d).D = 1 → q2.len = 1 := fun e => by rw [e] at h3'; have := h3'.len; rw [T0n] at this; exact this
 have rest : ∀ (pre : ByteArray), pre.size ≤ 2 ^ 42 + 2 → (M05 a d).D ≠ 1 → ratT a d = pre ++ (i0g ++ decS (M05 a d).D) →
  ((ByteArray.size pre + ByteArray.size (ByteArray.mk #[47]) : Nat) : Int) ≤ i64.max ∧
  a00 prog e08 #[q2.v] V4 fun v V5 => ∃ r7 : ByteArray, v = .string r7 ∧
  ((ByteArray.size (pre ++ (ByteArray.mk #[47])) + ByteArray.size r7 : Nat) : Int) ≤ i64.max ∧
  Value.string ((pre ++ (ByteArray.mk #[47])) ++ r7) = Value.string (ratT a d) := by
  intro pre hp h1 he
  refine ⟨by rw [z2, hmax]; omega, (c0b h3' (by omega)).mono fun v V5 l5 hv => ⟨_, hv, by rw [f05, z2, hmax]; omega, ?_⟩⟩
  rw [he, z0b]; rfl
 have tail : ∀ (pre : ByteArray), pre.size ≤ 2 ^ 42 + 2 → ((M05 a d).D = 1 → ratT a d = pre) → ((M05 a d).D ≠ 1 → ratT a d = pre ++ (i0g ++ decS (M05 a d).D)) →
  ((((q2.len : Int) : Int) == 1) = true →
  ((0 : Int) ≤ 0 ∧ (0 : Int) < (q2.len : Nat) ∧ Option.isSome q2.a = true) ∧
  ∃ x1 : Int, View.load V4 (Option.map (fun q => Addr.add q (Int.toNat 0 * 1)) q2.a) = some (.int .u32 x1) ∧
  (((x1 : Int) == 1) = true → Value.string pre = Value.string (ratT a d)) ∧
  (((x1 : Int) == 1) = false →
    ((ByteArray.size pre + ByteArray.size (ByteArray.mk #[47]) : Nat) : Int) ≤ i64.max ∧
    a00 prog e08 #[q2.v] V4 fun v V5 => ∃ r7 : ByteArray, v = .string r7 ∧
    ((ByteArray.size (pre ++ (ByteArray.mk #[47])) + ByteArray.size r7 : Nat) : Int) ≤ i64.max ∧
    Value.string ((pre ++ (ByteArray.mk #[47])) ++ r7) = Value.string (ratT a d))) ∧
  ((((q2.len : Int) : Int) == 1) = false →
  (false = true → Value.string pre = Value.string (ratT a d)) ∧
  (false = false →
    ((ByteArray.size pre + ByteArray.size (ByteArray.mk #[47]) : Nat) : Int) ≤ i64.max ∧
    a00 prog e08 #[q2.v] V4 fun v V6 => ∃ r8 : ByteArray, v = .string r8 ∧
    ((ByteArray.size (pre ++ (ByteArray.mk #[47])) + ByteArray.size r8 : Nat) : Int) ≤ i64.max ∧
    Value.string ((pre ++ (ByteArray.mk #[47])) ++ r8) = Value.string (ratT a d))) := by
  intro pre hp he hne
  refine ⟨fun hl => ?_, fun hl => ⟨fun h => absurd h (by simp), fun _ => ?_⟩⟩
  · have hl : q2.len = 1 := by have : (q2.len : Int) = 1 := (by simpa using hl); omega
    obtain ⟨g1, g2⟩ := one hl
    have hw := p0t h3' hl
    refine ⟨g1, _, g2, fun h => ?_, fun h => ?_⟩
    · have : (((dig (M05 a d).D).getD 0 0 : Nat) : Int) = 1 := of_decide_eq_true (by rw [← h]; rfl)
      rw [he (hw.1 (by omega))]
    · have : ¬ (((dig (M05 a d).D).getD 0 0 : Nat) : Int) = 1 := of_decide_eq_false (by rw [← h]; rfl)
      have h1 : (M05 a d).D ≠ 1 := fun e => this (by have := hw.2 e; omega)
      exact rest pre hp h1 (hne h1)
  · have h1 : (M05 a d).D ≠ 1 := fun e => by rw [ne1 e] at hl; simp at hl
    exact rest pre hp h1 (hne h1)
 refine ⟨fun hneg => ⟨by rw [z1, hmax]; omega, tail _ (by rw [f05, z1]; omega) (fun e => ?_) (fun e => ?_)⟩, fun hneg => tail _ (by omega) (fun e => ?_) (fun e => ?_)⟩
 all_goals
  rw [hneg] at hn
  unfold ratT ratS
 · have hn : (M05 a d).A < 0 := e3.2 (of_decide_eq_true hn.symm)
   simp only [hn, e, if_true]; rfl
 · have hn : (M05 a d).A < 0 := e3.2 (of_decide_eq_true hn.symm)
   simp only [hn, e, if_true, if_false]; rfl
 · have hn : ¬ (M05 a d).A < 0 := fun h => (of_decide_eq_false hn.symm) (e3.1 h)
   simp only [hn, e, if_true, if_false]
 · have hn : ¬ (M05 a d).A < 0 := fun h => (of_decide_eq_false hn.symm) (e3.1 h)
   simp only [hn, e, if_false]
theorem m0i {V : View} {x : NumV} {z : Cq} (hx : QAt V x z) (hz : z.sz ≤ 2 ^ 40) : a00 prog b0n #[x.val] V fun v _ => v = .string (cqS z) := by
 have zA := z.szA; have zB := z.szB; have zD := z.szD
 have hD := z.D_pos
 have t1 := F0e (a := z.A) hD
 have t2 := F0e (a := z.B) hD
 have hmax : i64.max = 9223372036854775807 := by decide
 have z1 : (ByteArray.mk #[105]).size = 1 := rfl
 have z2 : (ByteArray.mk #[43]).size = 1 := rfl
 have hA0 := O0c hx.re
 have hB0 := O0c hx.im
 rw [H0t]
 refine I0l x V _ ⟨fun hr => ?_, fun hr => ⟨fun hA => ?_, fun hA => ?_⟩⟩
 · have hB : z.B = 0 := hB0.1 ((lenT _).1 hr)
   rw [if_pos hB]
   exact (b06 hx.re hx.under hD (by omega) (by omega)).mono fun v V3 l3 hv => ⟨_, hv, rfl⟩
 all_goals
  have hB : ¬ z.B = 0 := fun e => by rw [hB0.2 e] at hr; simp at hr
  rw [if_neg hB]
 · have hA : z.A = 0 := hA0.1 ((lenT _).1 hA)
   rw [if_pos hA]
   exact (b06 hx.im hx.under hD (by omega) (by omega)).mono fun v V3 l3 hv => ⟨_, hv, by rw [z1, hmax]; omega, rfl⟩
 · have hA : ¬ z.A = 0 := fun e => by rw [hA0.2 e] at hA; simp at hA
   have hneg := hx.im.1
   rw [if_neg hA]
   refine ⟨fun hn => ?_, fun hn => ?_⟩
   · rw [hn] at hneg
     rw [if_pos (of_decide_eq_true hneg.symm)]
     refine (b06 hx.re hx.under hD (by omega) (by omega)).mono fun v V3 l3 hv => ⟨_, hv, ?_⟩
     refine (b06 (hx.im.le l3) (hx.under.le l3) hD (by omega) (by omega)).mono fun v V4 l4 hv => ⟨_, hv, by rw [hmax]; omega, by rw [f05, z1, hmax]; omega, ?_⟩
     rw [z0b]; rfl
   · rw [hn] at hneg
     rw [if_neg (of_decide_eq_false hneg.symm)]
     refine (b06 hx.re hx.under hD (by omega) (by omega)).mono fun v V3 l3 hv => ⟨_, hv, by rw [z2, hmax]; omega, ?_⟩
     refine (b06 (hx.im.le l3) (hx.under.le l3) hD (by omega) (by omega)).mono fun v V4 l4 hv => ⟨_, hv, by rw [f05, z2, hmax]; omega, by rw [f05, f05, z1, z2, hmax]; omega, ?_⟩
     rw [z0b, z0b]; rfl
theorem y0m {V : View} {x y : NumV} {z : Cq} (hx : f01 V x z) (hy : QAt V y z) (hz : z.sz ≤ 2 ^ 40) : a00 prog k0r #[x.val, y.val] V fun v _ => v = .bool true := by
 refine m0q x y V _ ((I0b hx hz).mono fun v V1 l1 hv => ⟨_, hv, (m0i (hy.le l1) hz).mono fun v V2 l2 hv => ⟨_, hv, ?_⟩⟩)
 rw [beq_self_eq_true]
def qC (V : View) (x : List Value) (z : Cq) : Prop := ∃ n : NumV, x = n.val.cells.toList ∧ QAt V n z
theorem qC.le {V V' : View} (hle : V.le V') (x : List Value) (z : Cq) (h : qC V x z) : qC V' x z := by
 obtain ⟨n, e, hn⟩ := h; exact ⟨n, e, hn.le hle⟩
def QsAt (V : View) (s : Sl) (zs : List Cq) : Prop := o00 5 qC V s zs
theorem QsAt.le {V V' : View} (hle : V.le V') {s : Sl} {zs : List Cq} (h : QsAt V s zs) : QsAt V' s zs := o00.le (qC.le hle) hle h
theorem QsAt.get {V : View} {s : Sl} {zs : List Cq} (h : QsAt V s zs) {t : Int} (h0 : 0 ≤ t) (h1 : t.toNat < zs.length) :
 ((0 : Int) ≤ t ∧ t < (s.len : Nat) ∧ Option.isSome s.a = true) ∧
 ∃ x : NumV, V.has (Option.map (fun q => Addr.add q (Int.toNat t * 5)) s.a) x.val.cells.toList ∧ Option.isSome (Option.map (fun q => Addr.add q (Int.toNat t * 5)) s.a) = true ∧ QAt V x (nth zs t.toNat) := by
 obtain ⟨hb, x, ⟨n, e, hn⟩, _, h1, h2⟩ := o00.get h h0 (F0r h1)
 exact ⟨hb, n, e ▸ h1, h2, hn⟩
theorem Y0f {V : View} {p q : Sl} {zs : List Cq} (hp : O08 V p zs) (hq : QsAt V q zs) (hl : zs.length ≤ 2 ^ 40) (hz : ∀ i, i < zs.length → (nth zs i).sz ≤ 2 ^ 40) :
 a00 prog t0j #[p.v, q.v] V fun v _ => v = .bool true := by
 have hpl := hp.len
 have hql := hq.len
 refine g0i p q V _ (fun _ x _ => ∃ i : Nat, x.t14 = (i : Int) ∧ i ≤ zs.length) (fun _ x _ => (zs.length - x.t14).toNat) ⟨fun h => ?_, fun _ => ⟨⟨0, rfl, by omega⟩, ?_⟩⟩
 · rw [hpl, hql] at h; simp at h
 rintro ⟨t⟩ V1 l1 ⟨i, rfl, hi⟩
 dsimp only
 refine ⟨fun hlt => ?_, fun _ => rfl⟩
 simp only [decide_eq_true_eq] at hlt
 have hi' : (i : Int).toNat < zs.length := by omega
 obtain ⟨hb1, x, hx, hs, hnx⟩ := (hp.le l1).get (by omega) hi'
 obtain ⟨hb2, y, hy, hs2, hny⟩ := (hq.le l1).get (by omega) hi'
 refine ⟨hb1, x, hx, hs, hb2, y, hy, hs2, (y0m hnx hny (hz _ hi')).mono fun v V2 l2 hv => ⟨_, hv, fun h => absurd h (by simp), fun _ => ?_⟩⟩
 rw [i64w (by omega) (by omega)]
 exact ⟨⟨i + 1, by omega, by omega⟩, by omega⟩

def ltC (_ : View) (x : List Value) (k : Z09) : Prop := x = k.val.cells.toList
def ltI (k : Z09) : Prop := ratI k.time ∧ ratI k.place
def ltT (k : Z09) : Tk := ⟨ratQ k.time, ratQ k.place⟩
theorem j0v {ks : List Z09} (h : ∀ k ∈ ks, ltI k) : ∀ k ∈ ks.map ltT, k.szle 64 := by
 intro k hk
 obtain ⟨k0, h0, rfl⟩ := List.mem_map.1 hk
 exact ⟨H0e (h k0 h0).1, H0e (h k0 h0).2⟩
theorem Q0o {α β : Type} {f : α → β} {l : List α} {t : Nat} {k : α} (h : l[t]? = some k) : (l.take (t + 1)).map f = (l.take t).map f ++ [f k] := by
 rw [List.take_add_one, h]; simp
theorem B0k {V : View} {s : Sl} {ks : List Z09} (h : o00 6 ltC V s ks) (hi : ∀ k ∈ ks, ltI k) (hn : ks.length ≤ 2 ^ 20) :
 a00 prog n0c #[s.v] V fun v V' => ∃ r1 r2 : Sl, v = .tuple #[r1.v, r2.v] ∧ S05 V' r1 (ks.map ltT) ∧ Z0a V' r2 (ks.map ltT) := by
 have hl : s.len = ks.length := h.len
 refine c0c s V _ (fun _ x V' => ∃ (t : Nat) (l4 l5 : List Value), x.t10 = t ∧ t ≤ ks.length ∧ Z00 10 x.t4l x.t4c x.o4 l4 ∧ x.t4l = t ∧ q01 10 Q0f V' l4 ((ks.take t).map ltT) ∧ Z00 10 x.t5l x.t5c x.o5 l5 ∧ x.t5l = t ∧ q01 10 i0a V' l5 ((ks.take t).map ltT))
  (fun _ x _ => ks.length - x.t10.toNat) ⟨⟨0, [], [], rfl, by omega, Z00.nil, rfl, rfl, Z00.nil, rfl, rfl⟩, ?_⟩
 rintro ⟨t4l, t4c, t5l, t5c, t10, o4, o5⟩ V1 l1 ⟨t, l4, l5, et, ht, hL4, e4, hC4, hL5, e5, hC5⟩
 dsimp only at et hL4 e4 hC4 hL5 e5 hC5 ⊢
 subst et; subst e4
 obtain rfl : t5l = t4l := e5
 rw [hl]
 refine ⟨fun hlt => ?_, fun hge => ?_⟩
 · have hk : t5l < ks.length := by simp at hlt; omega
   have ek : ks[t5l]? = some ks[t5l] := List.getElem?_eq_getElem hk
   obtain ⟨hi1, hi2⟩ := hi _ (List.getElem_mem hk)
   obtain ⟨g, x, hx, _, hh, hs⟩ := o00.get (o00.le (V := V) (V' := V1) (P := ltC) (fun _ _ e => e) l1 h) (t := (t5l : Int)) (by omega) (z := ks[t5l]) (by rw [Int.toNat_natCast]; exact ek)
   rw [hl] at g
   have tm := Q0o (f := ltT) ek
   generalize ks[t5l] = k at *
   subst hx
   refine ⟨g, k, hh, hs, (p07 hi1).mono fun v V2 l2 ⟨r1, hv, a1⟩ => ⟨r1, hv, (p07 hi2).mono fun v V3 l3 ⟨r2, hv, a2⟩ => ⟨r2, hv, fun b1 V4 l4' _ hb1 => ?_⟩⟩⟩
   refine ⟨l4, (b09.mk r1 r2).val.cells.toList, hL4, K07 hb1, rfl, ?_, by unfold maxLen; omega, by omega, fun c1 l3' hl3 => ?_⟩
   · intro v hv
     rcases List.mem_append.1 (show v ∈ r1.val.cells.toList ++ r2.val.cells.toList from hv) with hv | hv
     · exact U04 r1 v hv
     · exact U04 r2 v hv
   refine (E06 hi1).mono fun v V5 l5' ⟨r3, hv, a3⟩ => ⟨r3, hv, (E06 hi2).mono fun v V6 l6 ⟨r4, hv, a4⟩ => ⟨r4, hv, fun b2 V7 l7 _ hb2 => ?_⟩⟩
   refine ⟨l5, (b09.mk r3 r4).val.cells.toList, hL5, K07 hb2, rfl, ?_, by unfold maxLen; omega, by omega, fun c2 l6' hl6 => ?_⟩
   · intro v hv
     rcases List.mem_append.1 (show v ∈ r3.val.cells.toList ++ r4.val.cells.toList from hv) with hv | hv
     · exact U04 r3 v hv
     · exact U04 r4 v hv
   rw [i64w (by omega) (by omega)]
   have L47 := View.le_trans l5' (View.le_trans l6 l7)
   have L27 := View.le_trans l3 (View.le_trans l4' L47)
   have L17 := View.le_trans l2 L27
   refine ⟨⟨t5l + 1, _, _, by omega, by omega, hl3, rfl, ?_, hl6, rfl, ?_⟩, by omega⟩
   · rw [tm]
     exact (hC4.imp (Q0f.le L17)).append (q01.one rfl ⟨_, rfl, a1.le L27, a2.le (View.le_trans l4' L47)⟩)
   · rw [tm]
     exact (hC5.imp (i0a.le L17)).append (q01.one rfl ⟨_, rfl, a3.le (View.le_trans l6 l7), a4.le l7⟩)
 · have e : t5l = ks.length := by simp at hge; omega
   subst e
   rw [List.take_length] at hC4 hC5
   intro b3 V8 l8 hb3 b4 V9 l9 hb4
   refine ⟨⟨lstA b3 t4c, _, t4c⟩, ⟨lstA b4 t5c, _, t5c⟩, rfl, ?_, ?_⟩
   · exact S05.le l9 (x03 hL4 hb3 (hC4.imp (Q0f.le l8)) (by rw [List.length_map]))
   · exact x03 hL5 hb4 (hC5.imp (i0a.le (View.le_trans l8 l9))) (by rw [List.length_map])
end Go.Proofs.YtefkpimcffofaaaGreat
namespace Go.Proofs.YtefkpimcffofaaaGreat
open Go Go.Vc Go.Proofs Go.ChangeShapes Go.RowKit
abbrev i3 (fs : List FK) : List FK := .int .i64 :: .int .i64 :: .int .i64 :: fs
theorem k0v {fs : List FK} {cs : List Value} (h : f0f (i3 fs) cs) :
 ∃ (r : RatV) (cs' : List Value), cs = .int .i64 r.re :: .int .i64 r.im :: .int .i64 r.den :: cs' ∧ ratI r ∧ f0f fs cs' := by
 cases cs with
 | nil => exact h.elim
 | cons x cs =>
   obtain ⟨⟨a, e1, w1⟩, h⟩ := h
   cases cs with
   | nil => exact h.elim
   | cons y cs =>
     obtain ⟨⟨b, e2, w2⟩, h⟩ := h
     cases cs with
     | nil => exact h.elim
     | cons z cs =>
       obtain ⟨⟨c, e3, w3⟩, h⟩ := h
       exact ⟨⟨a, b, c⟩, cs, by rw [e1, e2, e3], ⟨bounds_i64 w1, bounds_i64 w2, bounds_i64 w3⟩, h⟩
theorem p0s {cs : List Value} (h : f0f [] cs) : cs = [] := by
 cases cs with
 | nil => rfl
 | cons _ _ => exact h.elim
section
variable {H : Type} {enc : TypeId × Value → H} {P : Program} {w : World} {base : Nat} {spare : Nat → Bool} {held : Bool} {t : TypeId} {v : Value} {dd : DataW H} {ps : List MemPlace}
theorem w0h {e : TypeId} (ht : P.underlying t = some (.slice e)) (hc : P.cellsOf e = 6) (hk : O0n P 8 e = some (i3 (i3 []))) (hv : ∃ a l c, v = .slice a l c) (h : DataW.Trod enc P w base spare held t v dd ps) :
 ∃ (s : Sl) (ks : List Z09), v = s.v ∧ o00 6 ltC (L07 w) s ks ∧ ks.length ≤ maxLen ∧ ∀ k ∈ ks, ltI k := by
 obtain ⟨fuel, h⟩ := h
 obtain ⟨s, zs, e1, h1, h2, h3⟩ := c0s (α := Z09) ht hc ltI ltC (fun {fuel cs x} g => by
  obtain ⟨r0, c0, e0, h0, h⟩ := k0v (g0f 8 fuel e _ cs x hk g)
  obtain ⟨r1, c1, e1, h1, h⟩ := k0v h
  exact ⟨⟨r0, r1⟩, ⟨h0, h1⟩, by rw [e0, e1, p0s h]; rfl⟩) h
 exact ⟨s, zs, i0m e1 hv, h1, h2, h3⟩
end
end Go.Proofs.YtefkpimcffofaaaGreat
namespace Go.Proofs.YtefkpimcffofaaaGreat
open Go Go.Vc Go.Proofs
open Go.Proofs.Tryz (prog)
open Go.IntKind (i64 u64 u32 u8)
theorem A0q {V : View} {s : Sl} {ks l : List Tk} (h : S05 V s ks) (el : l = strT ks) {p : Option Addr} (hp : V.load p = some s.v) {t : Nat} {k : Tk} (hk : l[t]? = some k) :
 a00 prog P07 #[.int .i64 (t : Int), .pointer p] V fun v V' => ∃ r : NumV, v = .tuple #[r.val, .bool (decide (k.place.im = 0))] ∧ f01 V' r k.time := by
 subst el
 unfold strT at hk
 rw [List.getElem?_map] at hk
 obtain ⟨k0, h0, rfl⟩ := Option.map_eq_some_iff.1 hk
 obtain ⟨g, y, hy, _, hs, ⟨h1, g1⟩, _⟩ := S08 h (t := (t : Int)) (by omega) (k := k0) (by rw [Int.toNat_natCast]; exact h0)
 exact y0b (t : Int) p V _ ⟨s, hp, g, hs, y.time, h1, g1, y.time, rfl, hy.time⟩
theorem q0s {V : View} {s : Sl} {ks l : List Tk} (h : S05 V s ks) (el : l = strT ks) {S : Nat} (hz : ∀ k ∈ l, k.szle S) (hS : S ≤ 2 ^ 30) {p : Option Addr} (hp : V.load p = some s.v) :
 a00 prog L0b #[.int .i64 (s.len : Int), (Fn1.mk p).val P07] V fun v _ => ∃ r : Int, v = .int .i64 r ∧ r = B06 l := by
 have hl : s.len = l.length := by rw [el]; unfold strT; rw [List.length_map]; exact h.len
 refine q06 (s.len : Int) ⟨p⟩ V _ (fun _ _ _ => 1 ≤ l.length ∧ l.length ≤ 4096)
  (fun _ x V' => ∃ t : Nat, x.t16 = t ∧ t ≤ l.length ∧ (∀ k, E04 l t = some k → f01 V' x.o5 k.time ∧ k.time.im = 0) ∧ ascF none l = ascF ((E04 l t).map fun k => k.time.re) (l.drop t)) (fun _ x _ => l.length - x.t16.toNat) ?_
 rw [hl]
 refine ⟨⟨fun h0 => ⟨_, rfl, ?_⟩, fun h0 => ⟨fun h1 => ⟨_, rfl, ?_⟩, fun h1 => ?_⟩⟩, ?_⟩
 · unfold B06; rw [if_pos (.inl (by simpa using h0))]
 · unfold B06; rw [if_pos (.inr (by simp at h1; omega))]
 · have h0 : l.length ≠ 0 := by simpa using h0
   exact ⟨by omega, by simp at h1; omega⟩
 rintro ⟨u⟩ V1 l1 ⟨hn1, hn2⟩
 refine ⟨⟨0, rfl, by omega, fun k hk => by simp [E04] at hk, rfl⟩, ?_⟩
 rw [c0h hn1 hn2]
 rintro ⟨t16, o5⟩ V2 l2 ⟨t, et, ht, ho, hE⟩
 dsimp only at et ho ⊢
 subst et
 have L2 := View.le_trans l1 l2
 refine ⟨fun hlt => ?_, fun hge => ⟨_, rfl, ?_⟩⟩
 · have hk : t < l.length := by simp at hlt; omega
   have ek : l[t]? = some l[t] := List.getElem?_eq_getElem hk
   have hmem : l[t] ∈ l := List.getElem_mem hk
   obtain ⟨zt, zp⟩ := hz _ hmem
   rw [B0b ek] at hE
   generalize hkk : l[t] = k at *
   refine (A0q (h.le L2) el (K02 L2 hp) ek).mono fun v V3 l3 ⟨r1, hv, h1⟩ => ⟨r1, _, hv, fun c => ⟨_, rfl, ?_⟩, fun c => ?_⟩
   · have c : ¬ k.place.im = 0 := by simpa using c
     rw [hE]; unfold ascF; rw [if_pos (by unfold Tk.real; simp [c])]
   have c : k.place.im = 0 := by simpa using c
   refine (Y03 h1).mono fun v V4 l4 hv => ⟨_, hv, fun d => ⟨_, rfl, ?_⟩, fun d => ?_⟩
   · have d : ¬ k.time.im = 0 := by simpa using d
     rw [hE]; unfold ascF; rw [if_pos (by unfold Tk.real; simp [d])]
   have d : k.time.im = 0 := by simpa using d
   have hr : ¬ k.real = false := by unfold Tk.real; simp [c, d]
   have step : ∀ V', View.le V4 V' → (∀ q, E04 l t = some q → ¬ k.time.re ≤ q.time.re) → (∃ t' : Nat, i64.wrap ((t : Int) + 1) = t' ∧ t' ≤ l.length ∧ (∀ k, E04 l t' = some k → f01 V' r1 k.time ∧ k.time.im = 0) ∧ ascF none l = ascF ((E04 l t').map fun k => k.time.re) (l.drop t')) ∧ l.length - (i64.wrap ((t : Int) + 1)).toNat < l.length - (t : Int).toNat := by
    intro V' l' hq
    rw [i64w (by omega) (by omega)]
    refine ⟨⟨t + 1, by omega, by omega, ?_, ?_⟩, by omega⟩
    · intro k' hk'
      rw [C06, ek] at hk'
      obtain rfl := Option.some.inj hk'
      exact ⟨h1.le (View.le_trans l4 l'), d⟩
    · rw [hE, C06, ek]
      conv => lhs; unfold ascF
      rw [if_neg hr]
      cases hpa : E04 l t with
      | none => rfl
      | some q =>
        simp only [Option.map_some]
        rw [if_neg (hq q hpa)]
   refine ⟨fun c0 => ?_, fun c0 => step V4 (View.le_refl _) fun q hq => ?_⟩
   · have hpos : 0 < t := by simp at c0; omega
     have ep : l[t - 1]? = some l[t - 1] := List.getElem?_eq_getElem (by omega)
     have hpa : E04 l t = some l[t - 1] := by unfold E04; rw [if_neg (by omega), ep]
     obtain ⟨ho1, ho2⟩ := ho _ hpa
     have zq := (hz _ (List.getElem_mem (show t - 1 < l.length by omega))).1
     generalize l[t - 1] = q at *
     refine (U08 (h1.le l4) (ho1.le (View.le_trans l3 l4)) (by omega) (by omega)).mono fun v V5 l5 hv => ⟨_, hv, fun e => ⟨_, rfl, ?_⟩, fun e => step V5 l5 fun q' hq' => ?_⟩
     · rw [g0a d ho2] at e
       have e : k.time.re ≤ q.time.re := by
        rcases J04 k.time.re q.time.re with ⟨g, _⟩ | ⟨g, _⟩ | ⟨_, g⟩
        · grind
        · grind
        · rw [g] at e; simp at e
       rw [hE, hpa]
       conv => rhs; unfold ascF
       rw [if_neg hr]
       simp only [Option.map_some]
       rw [if_pos e]
     · rw [hpa] at hq'
       obtain rfl := Option.some.inj hq'
       rw [g0a d ho2] at e
       rcases J04 k.time.re q.time.re with ⟨_, g⟩ | ⟨_, g⟩ | ⟨g, _⟩
       · rw [g] at e; simp at e
       · rw [g] at e; simp at e
       · grind
   · have : t = 0 := by simp at c0; omega
     subst this
     simp [E04] at hq
 · have e : t = l.length := by simp at hge; omega
   subst e
   rw [hE, List.drop_length]; rfl
theorem C0k {V : View} {s : b09} {k : Tk} (h : Z0i V s k) {p : Option Addr} {x : NumV} {t : Cq} (hp : V.has p x.val.cells.toList) (hs : Option.isSome p = true) (hx : f01 V x t) {S : Nat} (zk : k.szle S) (zt : t.sz ≤ S) (hS : S ≤ 2 ^ 30) :
 a00 prog M06 #[(C0g.mk s.time s.place).val, .pointer p] V fun v _ => v = .bool (decide (0 ≤ k.time.cmp t)) := by
 obtain ⟨z1, z2⟩ := zk
 exact T09 ⟨s.time, s.place⟩ p V _ ⟨x, hp, hs, (U08 h.time hx (by omega) (by omega)).mono fun v V1 _ hv => ⟨_, hv, rfl⟩⟩
theorem W0n {V : View} {s : Sl} {l : List Tk} (h : S05 V s l) (hn : l.length ≤ 2 ^ 40) {p : Option Addr} {x : NumV} {t : Cq} (hp : V.has p x.val.cells.toList) (hs : Option.isSome p = true) (hx : f01 V x t) {S : Nat} (hz : ∀ k ∈ l, k.szle S) (zt : t.sz ≤ S) (hS : S ≤ 2 ^ 30) :
 a00 prog j03 #[s.v, (Fn1.mk p).val M06] V fun v _ => ∃ r : Int, v = .int .i64 r ∧
  ((r = -1 ∧ ∀ k ∈ l, ¬ 0 ≤ k.time.cmp t) ∨ ∃ (i : Nat) (k : Tk), r = i ∧ l[i]? = some k ∧ 0 ≤ k.time.cmp t ∧ ∀ k ∈ l.take i, ¬ 0 ≤ k.time.cmp t) := by
 have hl := h.len
 refine P01 s ⟨p⟩ V _ (fun _ x _ => ∃ i : Nat, x.t8 = i ∧ i ≤ l.length ∧ ∀ k ∈ l.take i, ¬ 0 ≤ k.time.cmp t) (fun _ x _ => l.length - x.t8.toNat) ⟨⟨0, rfl, by omega, by simp⟩, ?_⟩
 rintro ⟨t8⟩ V1 l1 ⟨i, ei, hi, hno⟩
 dsimp only at ei ⊢
 subst ei
 refine ⟨fun hlt => ?_, fun hge => ⟨_, rfl, .inl ⟨rfl, ?_⟩⟩⟩
 · have hk : i < l.length := by simp at hlt; omega
   have ek : l[i]? = some l[i] := List.getElem?_eq_getElem hk
   obtain ⟨g, y, hy, hh, hsm, _⟩ := S08 (h.le l1) (t := (i : Int)) (by omega) (k := l[i]) (by rw [Int.toNat_natCast]; exact ek)
   refine ⟨g, ⟨y.time, y.place⟩, hh, hsm, (C0k hy (x01 l1 hp) hs (hx.le l1) (hz _ (List.getElem_mem hk)) zt hS).mono fun v V2 l2 hv => ⟨_, hv, fun c => ⟨_, rfl, .inr ⟨i, _, rfl, ek, by simpa using c, hno⟩⟩, fun c => ?_⟩⟩
   rw [i64w (by omega) (by omega)]
   refine ⟨⟨i + 1, by omega, by omega, fun k hm => ?_⟩, by omega⟩
   rw [List.take_add_one, ek] at hm
   rcases List.mem_append.1 hm with hm | hm
   · exact hno k hm
   · have : k = l[i] := by simpa using hm
     rw [this]; simpa using c
 · have e : i = l.length := by simp at hge; omega
   subst e
   rw [List.take_length] at hno
   exact hno
theorem s0s {V : View} : a00 prog E0g #[.int .i64 0] V fun v V3 => ∃ r2 : NumV, v = r2.val ∧
 a00 prog l0o #[zN.val, r2.val] V3 fun v V4 => ∃ r3 : NumV, v = r3.val ∧ f01 V4 r3 Cq.zero :=
 (k0a (n := 0) (by omega) (by omega)).mono fun v V1 _ ⟨r, hv, hr⟩ => ⟨r, hv, Y0d hr⟩
set_option maxHeartbeats 1000000 in
theorem z0m {V : View} {s : Sl} {l : List Tk} (h : S05 V s l) (hn : l.length ≤ 2 ^ 40) {x : NumV} {t : Cq} (hx : f01 V x t) {S : Nat} (hz : ∀ k ∈ l, k.szle S) (zt : t.sz ≤ S) (hS : S ≤ 2 ^ 28) :
 a00 prog l0b #[s.v, x.val] V fun v V' => ∃ (r : NumV) (b : Bool), v = .tuple #[r.val, .bool b] ∧ b = (N04 t none l).isSome ∧ f01 V' r ((N04 t none l).getD Cq.zero) := by
 have no : ∀ (V' : View) (r : NumV), f01 V' r Cq.zero → N04 t none l = none → ∃ (r' : NumV) (b : Bool), Value.tuple #[r.val, .bool false] = Value.tuple #[r'.val, .bool b] ∧ b = (N04 t none l).isSome ∧ f01 V' r' ((N04 t none l).getD Cq.zero) := fun V' r hr g => by
  rw [g]; exact ⟨r, _, rfl, rfl, hr⟩
 have yes : ∀ (V' : View) (r : NumV) (w : Cq), N04 t none l = some w → f01 V' r w → ∃ (r' : NumV) (b : Bool), Value.tuple #[r.val, .bool true] = Value.tuple #[r'.val, .bool b] ∧ b = (N04 t none l).isSome ∧ f01 V' r' ((N04 t none l).getD Cq.zero) := fun V' r w g hr => by
  rw [g]; exact ⟨r, _, rfl, rfl, hr⟩
 refine T0a s x V _ fun b1 V3 l3 hb1 => ?_
 have hb : ∀ V', View.le V3 V' → V'.has (some (Addr.mk b1 0 none)) x.val.cells.toList := fun V' l' => x01 l' (m07 (cs := x.val.cells.toList) (j := 0) hb1 (fun i v hv => by rw [Nat.zero_add]; exact hv) rfl)
 refine (W0n (h.le l3) hn (hb V3 (View.le_refl _)) rfl (hx.le l3) hz zt (by omega)).mono fun v V4 l4 ⟨r3, hv, hr⟩ => ⟨r3, hv, fun e => ?_, fun e => ?_⟩
 · rcases hr with ⟨_, hno⟩ | ⟨i, k, hi, _⟩
   · refine s0s.mono fun v V5 _ ⟨r5, hv, h5⟩ => ⟨r5, hv, h5.mono fun v V6 _ ⟨r6, hv, h6⟩ => ⟨r6, hv, no V6 r6 h6 ?_⟩⟩
     rw [X0d l.length (Nat.le_refl _) (by rw [List.take_length]; exact hno), List.drop_length]; rfl
   · simp at e; omega
 rcases hr with ⟨hr, _⟩ | ⟨i, k, hi, ek, hc, hno⟩
 · rw [hr] at e; simp at e
 have ilt : i < l.length := (List.getElem?_eq_some_iff.1 ek).1
 subst hi
 have L4 := View.le_trans l3 l4
 have eP : N04 t none l = if k.time = t then some k.place else match E04 l i with
  | none => none
  | some p => some (d05 p.place k.place (t06 t p.time k.time)) := by
  rw [X0d i (by omega) hno, B0b ek]
  show (if 0 ≤ k.time.cmp t then _ else _) = _
  rw [if_pos hc]
  cases E04 l i <;> rfl
 obtain ⟨zk1, zk2⟩ := hz k (List.mem_of_getElem? ek)
 obtain ⟨g, y, hy, hh, hsm, ⟨ht1, ht2⟩, hp1, hp2⟩ := S08 (h.le L4) (t := (i : Int)) (by omega) (k := k) (by rw [Int.toNat_natCast]; exact ek)
 refine ⟨g, hsm, y.time, ht1, ht2, x, hb V4 l4, rfl, (F0b hy.time (hx.le L4) (by omega) (by omega)).mono fun v V5 l5 hv => ⟨_, hv, fun c => ?_, fun c => ⟨fun i0 => ?_, fun i0 => ?_⟩⟩⟩
 · have c : k.time = t := by simpa using c
   exact ⟨g, hsm, y.place, x01 l5 hp1, hp2, yes V5 _ _ (by rw [eP, if_pos c]) (hy.place.le l5)⟩
 · have c : ¬ k.time = t := by simpa using c
   have i0 : i = 0 := by simpa using i0
   subst i0
   exact s0s.mono fun v V6 _ ⟨r5, hv, h5⟩ => ⟨r5, hv, h5.mono fun v V7 _ ⟨r6, hv, h6⟩ => ⟨r6, hv, no V7 r6 h6 (by rw [eP, if_neg c]; rfl)⟩⟩
 · have c : ¬ k.time = t := by simpa using c
   have i0 : 0 < i := by
    have : i ≠ 0 := by simpa using i0
    omega
   rw [i64w (by omega) (by omega)]
   have ep : l[i - 1]? = some l[i - 1] := List.getElem?_eq_getElem (by omega)
   have hpa : E04 l i = some l[i - 1] := by unfold E04; rw [if_neg (by omega), ep]
   obtain ⟨zq1, zq2⟩ := hz _ (List.getElem_mem (show i - 1 < l.length by omega))
   obtain ⟨g', y', hy', hh', hsm', _⟩ := S08 (h.le L4) (t := (i : Int) - 1) (by omega) (k := l[i - 1]) (by rw [show ((i : Int) - 1).toNat = i - 1 by omega]; exact ep)
   generalize l[i - 1] = q at *
   rw [if_neg c, hpa] at eP
   refine ⟨g', ⟨y'.time, y'.place⟩, x01 l5 hh', hsm', g, ⟨y.time, y.place⟩, x01 l5 hh, hsm, x, hb V5 (View.le_trans l4 l5), rfl, ?_⟩
   have s1 := K03 t q.time; have s2 := K03 k.time q.time
   have s3 := m0h (z := t - q.time) (w := k.time - q.time) (S := 2 * S + 2) (by omega) (by omega)
   have s4 := K03 k.place q.place
   have s5 := Q02 (k.place - q.place) ((t - q.time).div (k.time - q.time))
   refine (o07 (hy.place.le l5) (hy'.place.le l5) (by omega) (by omega)).mono fun v V6 l6 ⟨r7, hv, h7⟩ => ⟨r7, hv, ?_⟩
   have L6 := View.le_trans l5 l6
   refine (p0m (hx.le (View.le_trans L4 L6)) (hy'.time.le L6) (hy.time.le L6) zt zq1 zk1 (by omega)).mono fun v V7 l7 ⟨r8, hv, h8⟩ => ⟨r8, hv, ?_⟩
   refine (Y0d h8).mono fun v V8 l8 ⟨r9, hv, h9⟩ => ⟨r9, hv, ?_⟩
   refine (s04 (h7.le (View.le_trans l7 l8)) h9 (by omega) (by show ((t - q.time).div (k.time - q.time)).sz ≤ _; omega)).mono fun v V9 l9 ⟨r10, hv, h10⟩ => ⟨r10, hv, ?_⟩
   refine (O05 (hy'.place.le (View.le_trans L6 (View.le_trans l7 (View.le_trans l8 l9)))) h10 (by omega) (by show ((k.place - q.place) * (t - q.time).div (k.time - q.time)).sz ≤ _; omega)).mono fun v V10 l10 ⟨r11, hv, h11⟩ => ⟨r11, hv, ?_⟩
   refine yes V10 r11 _ eP ?_
   unfold d05
   rw [Cq.mul_comm (t06 t q.time k.time)]
   exact h11

theorem S0o {α : Type} (n : Nat) (f : Nat → α) : rowL (n + 1) f = rowL n f ++ [f n] := by unfold rowL; rw [List.range_succ, List.map_append]; rfl
theorem k0f {Vx : View} {r : NumV} {n cap : Nat} {o l : List Value} (hL : Z00 5 n cap o l) (hn : n ≤ 64) {B : Nat → List Value → View → Prop}
 (hB : ∀ c l6 V', Vx.le V' → Z00 5 (n + 1) c l6 (l ++ r.val.cells.toList) → B c l6 V') :
 ∀ (b : Nat) (V' : View), View.le Vx V' → View.Fin V' → V' b = some #[.bool r.re.neg, r.re.mag.v, .bool r.im.neg, r.im.mag.v, r.under.v] →
  ∃ (l1 : List Value) (l2 : List Value), Z00 5 n cap o l1 ∧ View.has V' (some (Addr.mk b 0 none)) l2 ∧ List.length l2 = 1 * 5 ∧ (∀ v ∈ l2, Value.oneCell' v = true) ∧ n + 1 ≤ maxLen ∧ (n + 1) * 88 ≤ 140737488355328 ∧
  ∀ (c : Nat) (l3 : List Value), Z00 5 (n + 1) c l3 (l1 ++ l2) → B c l3 V' :=
 fun _ V' hle _ hb => ⟨l, r.val.cells.toList, hL, K07 hb, rfl, U04 r, by unfold maxLen; omega, by omega, fun c l3 h => hB c l3 V' hle h⟩
theorem D0k {Vx : View} {k : Int} {n cap : Nat} {o l : List Value} (hL : Z00 1 n cap o l) (hn : n ≤ 64) {B : Nat → List Value → View → Prop}
 (hB : ∀ c l6 V', Vx.le V' → Z00 1 (n + 1) c l6 (l ++ [.int .i64 k]) → B c l6 V') :
 ∀ (b : Nat) (V' : View), View.le Vx V' → View.Fin V' → V' b = some #[.int .i64 k] →
  ∃ (l1 : List Value) (l2 : List Value), Z00 1 n cap o l1 ∧ View.has V' (some (Addr.mk b 0 none)) l2 ∧ List.length l2 = 1 * 1 ∧ (∀ v ∈ l2, Value.oneCell' v = true) ∧ n + 1 ≤ maxLen ∧ (n + 1) * 8 ≤ 140737488355328 ∧
  ∀ (c : Nat) (l3 : List Value), Z00 1 (n + 1) c l3 (l1 ++ l2) → B c l3 V' :=
 fun _ V' hle _ hb => ⟨l, [.int .i64 k], hL, K07 (l := [.int .i64 k]) hb, rfl, by intro v hv; simp at hv; subst hv; rfl, by unfold maxLen; omega, by omega, fun c l3 h => hB c l3 V' hle h⟩
theorem d0b {l s : List Tk} {a d : Cq} {n : Int} (h1 : B06 l = 0) (h2 : B06 (strT s) = 0) (h : ¬ (a.im = 0 ∧ d.im = 0 ∧ d ≠ Cq.zero)) : e09 l s a d n = 1 := by
 unfold e09; rw [if_pos h1, if_pos h2, if_neg h]
theorem t0s {s : List Tk} {S : Nat} (h2 : 2 ≤ S) (h : ∀ k ∈ s, k.szle S) : ∀ k ∈ strT s, k.szle S := by
 intro k hk
 obtain ⟨k0, h0, rfl⟩ := List.mem_map.1 hk
 have : Cq.zero.sz ≤ 2 := by decide +kernel
 exact ⟨(h k0 h0).1, by show Cq.zero.sz ≤ S; omega⟩
theorem X0n {k : Nat} (h : k ≤ 64) : (natQ k).sz ≤ 64 := by
 refine (Rep.ofInt (k : Int)).sz (k := 64) ?_ (by decide) (by decide)
 exact s06 (by omega)
def l0v (V' : View) (e : Int) (n : Nat) (f : Nat → Cq) (miss : List Int) (r1 r2 : Sl) : Prop := O08 V' r1 (if e = 0 then rowL n f else []) ∧ o00 1 intC V' r2 (if e = 0 then miss else [])
theorem x0h {p : Cq} {l : List Tk} {S : Nat} (hl : ∀ k ∈ l, k.szle S) (hp : p.sz ≤ S) : ∀ w, Y05 p l = some w → w.sz ≤ 16 * S + 40 := by
 intro w hw
 cases l with
 | nil => simp [Y05] at hw
 | cons k l =>
   have hk := hl k (by simp)
   have hw : (if k.place = p then some k.time else Q08 p k l) = some w := hw
   split at hw
   · obtain rfl := Option.some.inj hw
     have := hk.1; omega
   · exact x0m hp l k (fun k' h' => hl k' (by simp [h'])) hk w hw
theorem E0k {a d : Cq} {k : Nat} (ha : a.sz ≤ 64) (hd : d.sz ≤ 64) (hk : k ≤ 64) : (a + d * natQ k).sz ≤ 300 := by
 have h1 := X0n hk
 have h2 := Q02 d (natQ k)
 have h3 := P09 a (d * natQ k)
 omega
set_option maxHeartbeats 2000000 in
theorem u0s {V : View} {p q : Sl} {l s : List Tk} {x y : NumV} {a d : Cq} {n : Int} (h : S05 V p l) (k : S05 V q s) (hx : f01 V x a) (hy : f01 V y d) (hl : ∀ k ∈ l, k.szle 64) (hs : ∀ k ∈ s, k.szle 64) (ha : a.sz ≤ 64) (hd : d.sz ≤ 64) (hsn : s.length ≤ 2 ^ 20) :
 a00 prog o0d #[p.v, q.v, x.val, y.val, .int .i64 n] V fun v V' => ∃ r1 r2 : Sl, v = .tuple #[r1.v, r2.v, .int .i64 (e09 l s a d n)] ∧ l0v V' (e09 l s a d n) n.toNat (e0f l s a d) (j07 l s a d n.toNat) r1 r2 := by
 have nil : ∀ (e : Int) (V' : View), e09 l s a d n = e → e ≠ 0 → ∃ r1 r2 : Sl, Value.tuple #[(Sl.mk none 0 0).v, (Sl.mk none 0 0).v, .int .i64 e] = .tuple #[r1.v, r2.v, .int .i64 (e09 l s a d n)] ∧ l0v V' (e09 l s a d n) n.toNat (e0f l s a d) (j07 l s a d n.toNat) r1 r2 := fun e V' he h0 => by
  rw [he]
  exact ⟨⟨none, 0, 0⟩, ⟨none, 0, 0⟩, rfl, by rw [if_neg h0]; exact o00.nil, by rw [if_neg h0]; exact o00.nil⟩
 refine A0c p q x y n V _ (fun _ _ _ => a.im = 0 ∧ d.im = 0 ∧ d ≠ Cq.zero) (fun _ _ _ => 1 ≤ n ∧ n ≤ 64)
  (fun _ z V' => ∃ (t : Nat) (l5 l1 : List Value), z.t53 = t ∧ (t : Int) ≤ n ∧ Z00 5 z.t15l z.t15c z.o15 l5 ∧ z.t15l = t ∧ q01 5 numC V' l5 (rowL t (e0f l s a d)) ∧ Z00 1 z.t16l z.t16c z.o16 l1 ∧ z.t16l = (j07 l s a d t).length ∧ q01 1 intC V' l1 (j07 l s a d t)) (fun _ z _ => n.toNat - z.t53.toNat) ?_
 refine (L0f h hl (by omega)).mono fun v V1 l1 ⟨r1, hv, e1⟩ => ⟨r1, hv, fun c => ?_, fun c b1 V2 l2 hb1 => ?_⟩
 · have c : B06 l ≠ 0 := by rw [← e1]; simpa using c
   rw [e1]; exact nil _ V1 (by unfold e09; rw [if_neg c]) c
 have c1 : B06 l = 0 := by rw [← e1]; simpa using c
 obtain ⟨tn1, tn2, asc⟩ := y0e c1
 have hld : V2.load (some (Addr.mk b1 0 none)) = some q.v := by simp [View.load, hb1]
 refine ⟨q, hld, ?_⟩
 have L2 := View.le_trans l1 l2
 refine (q0s (k.le L2) rfl (t0s (by omega) hs) (by omega) hld).mono fun v V3 l3 ⟨r2, hv, e2⟩ => ⟨r2, hv, fun c => ?_, fun c => ⟨?_, ?_⟩⟩
 · have c : B06 (strT s) ≠ 0 := by rw [← e2]; simpa using c
   rw [e2]; exact nil _ V3 (by unfold e09; rw [if_pos c1, if_neg c]) c
 all_goals have c2 : B06 (strT s) = 0 := by rw [← e2]; simpa using c
 all_goals have L3 := View.le_trans L2 l3
 · refine (Y03 (hx.le L3)).mono fun v V5 l5 hv => ⟨_, hv, fun c => ?_, fun c => ?_⟩
   · have c : ¬ a.im = 0 := by simpa using c
     exact nil 1 V5 (d0b c1 c2 (by rintro ⟨g, _⟩; exact c g)) (by decide)
   have r1 : a.im = 0 := by simpa using c
   refine (Y03 (hy.le (View.le_trans L3 l5))).mono fun v V6 l6 hv => ⟨_, hv, fun c => ?_, fun c => ?_⟩
   · have c : ¬ d.im = 0 := by simpa using c
     exact nil 1 V6 (d0b c1 c2 (by rintro ⟨_, g, _⟩; exact c g)) (by decide)
   have r2 : d.im = 0 := by simpa using c
   refine (z0a (hy.le (View.le_trans L3 (View.le_trans l5 l6))) (by omega)).mono fun v V7 l7 hv => ⟨_, hv, fun c => ?_, fun c => ⟨r1, r2, by simpa using c⟩⟩
   have c : d = Cq.zero := by simpa using c
   exact nil 1 V7 (d0b c1 c2 (by rintro ⟨_, _, g⟩; exact g c)) (by decide)
 rintro ⟨u⟩ V4 l4 hr
 have eE : e09 l s a d n = if 1 ≤ n ∧ n ≤ 64 then 0 else 4 := by unfold e09; rw [if_pos c1, if_pos c2, if_pos hr]
 refine ⟨⟨fun c => nil 4 V4 ?_ (by decide), fun c => ⟨fun c' => nil 4 V4 ?_ (by decide), fun c' => ?_⟩⟩, ?_⟩
 · rw [eE, if_neg (by simp at c; omega)]
 · rw [eE, if_neg (by simp at c'; omega)]
 · simp at c c'; exact ⟨by omega, by omega⟩
 rintro ⟨u'⟩ V8 l8 ⟨n1, n64⟩
 have e0 : e09 l s a d n = 0 := by rw [eE, if_pos ⟨n1, n64⟩]
 have L8 := View.le_trans L3 (View.le_trans l4 l8)
 refine ⟨⟨0, [], [], rfl, by omega, Z00.nil, rfl, rfl, Z00.nil, rfl, rfl⟩, ?_⟩
 rintro ⟨t15l, t15c, t16l, t16c, t53, o15, o16⟩ V9 l9 ⟨t, w5, w1, et, ht, hL5, e5, hC5, hL1, e1', hC1⟩
 dsimp only at et hL5 e5 hC5 hL1 e1' hC1 ⊢
 subst et; subst e5; subst e1'
 have L9 := View.le_trans L8 l9
 have hld9 := K02 (View.le_trans l3 (View.le_trans l4 (View.le_trans l8 l9))) hld
 refine ⟨fun hlt => ?_, fun hge => ?_⟩
 · have hk : (t15l : Int) < n := by simpa using hlt
   have k64 : t15l ≤ 64 := by omega
   have m64 := i0h l s a d t15l
   rw [i64w (by omega) (by omega)]
   have fin : ∀ (Vx : View) (r : NumV) (b : Bool) (cc c6 : Nat) (w5' w1' : List Value) (hm : Nat), View.le V9 Vx → f01 Vx r ((f09 l s a d t15l).getD Cq.zero) →
    Z00 5 (t15l + 1) c6 w5' (w5 ++ r.val.cells.toList) → b = (f09 l s a d t15l).isSome → (b = false → hm = (j07 l s a d t15l).length + 1 ∧ ∃ c, Z00 1 hm cc w1' (w1 ++ [.int .i64 (t15l : Int)]) ∧ c = cc) → (b = true → hm = (j07 l s a d t15l).length ∧ Z00 1 hm cc w1' w1) →
    (∃ (t' : Nat) (l5 l1 : List Value), ((t15l : Int) + 1) = t' ∧ (t' : Int) ≤ n ∧ Z00 5 (t15l + 1) c6 w5' l5 ∧ t15l + 1 = t' ∧ q01 5 numC Vx l5 (rowL t' (e0f l s a d)) ∧ Z00 1 hm cc w1' l1 ∧ hm = (j07 l s a d t').length ∧ q01 1 intC Vx l1 (j07 l s a d t')) ∧ n.toNat - ((t15l : Int) + 1).toNat < n.toNat - (t15l : Int).toNat := by
    intro Vx r b cc c6 w5' w1' hm hle hr hl5 hb h0 h1
    have c5 : q01 5 numC Vx (w5 ++ r.val.cells.toList) (rowL (t15l + 1) (e0f l s a d)) := by
     rw [S0o]
     exact (hC5.imp (numC.le hle)).append (q01.one rfl ⟨r, rfl, hr⟩)
    cases b with
    | false =>
      obtain ⟨g1, c, g2, rfl⟩ := h0 rfl
      have hn : (f09 l s a d t15l).isNone = true := by cases hq : f09 l s a d t15l with
       | none => rfl
       | some w => rw [hq] at hb; simp at hb
      have em : j07 l s a d (t15l + 1) = j07 l s a d t15l ++ [(t15l : Int)] := by rw [j0d, if_pos hn]
      refine ⟨⟨t15l + 1, _, _, by omega, by omega, hl5, rfl, c5, g2, by rw [em, g1]; simp, ?_⟩, by omega⟩
      rw [em]
      exact (q01.imp (P := intC) (V := V9) (V' := Vx) (fun _ _ e => e) hC1).append (q01.one rfl rfl)
    | true =>
      obtain ⟨g1, g2⟩ := h1 rfl
      have hn : ¬ (f09 l s a d t15l).isNone = true := by cases hq : f09 l s a d t15l with
       | none => rw [hq] at hb; simp at hb
       | some w => simp
      have em : j07 l s a d (t15l + 1) = j07 l s a d t15l := by rw [j0d, if_neg hn]
      refine ⟨⟨t15l + 1, _, _, by omega, by omega, hl5, rfl, c5, g2, by rw [em, g1], ?_⟩, by omega⟩
      rw [em]
      exact q01.imp (P := intC) (V := V9) (V' := Vx) (fun _ _ e => e) hC1
   refine (k0a (n := 0) (by omega) (by omega)).mono fun v V10 l10 ⟨r6, hv, h6⟩ => ⟨r6, hv, ?_⟩
   refine (Y0d h6).mono fun v V11 l11 ⟨r7, hv, h7⟩ => ⟨r7, hv, ?_⟩
   refine (m0d (n := (t15l : Int)) (by omega) (by omega)).mono fun v V12 l12 ⟨r8, hv, h8⟩ => ⟨r8, hv, ?_⟩
   have h8 : f01 V12 r8 (natQ t15l) := h8
   have La := View.le_trans l10 (View.le_trans l11 l12)
   have zk := X0n k64
   have zm := Q02 d (natQ t15l)
   refine (s04 (hy.le (View.le_trans L9 La)) h8 (by omega) (by omega)).mono fun v V13 l13 ⟨r9, hv, h9⟩ => ⟨r9, hv, ?_⟩
   have Lb := View.le_trans La l13
   refine (O05 (hx.le (View.le_trans L9 Lb)) h9 (by omega) (by omega)).mono fun v V14 l14 ⟨r10, hv, h10⟩ => ⟨r10, hv, ?_⟩
   have Lc := View.le_trans Lb l14
   have zp := E0k ha hd k64
   have hl300 : ∀ k ∈ l, k.szle 300 := fun k hk => ⟨Nat.le_trans (hl k hk).1 (by omega), Nat.le_trans (hl k hk).2 (by omega)⟩
   refine (d0j (h.le (View.le_trans L9 Lc)) tn1 (by omega) h10 hl300 zp (by omega)).mono fun v V15 l15 ⟨r11, b, hv, hb, h11⟩ => ⟨r11, b, hv, fun c => ?_, fun c => ?_⟩
   · subst c
     obtain ⟨T, hT⟩ := Option.isSome_iff_exists.1 hb.symm
     rw [hT] at h11
     have h11 : f01 V15 r11 T := h11
     have zT : T.sz ≤ 6000 := Nat.le_trans (x0h hl300 zp T hT) (by omega)
     have hs6 : ∀ k ∈ s, k.szle 6000 := fun k hk => ⟨Nat.le_trans (hs k hk).1 (by omega), Nat.le_trans (hs k hk).2 (by omega)⟩
     have eP : f09 l s a d t15l = N04 T none s := by unfold f09; rw [hT]; rfl
     have Ld := View.le_trans Lc l15
     refine ⟨q, K02 Ld hld9, (z0m (k.le (View.le_trans L9 Ld)) (by omega) h11 hs6 zT (by omega)).mono fun v V16 l16 ⟨r13, b, hv, hb2, h13⟩ => ⟨r13, b, hv, fun c => ?_, fun c => ?_⟩⟩
     · have c : b = false := by simpa using c
       subst c
       rw [← eP] at hb2 h13
       exact D0k hL1 (by omega) fun c1 w1' V17 l17 hl1 => k0f hL5 k64 fun c2 w5' V18 l18 hl5 => fin V18 r13 false c1 c2 w5' w1' _ (View.le_trans Ld (View.le_trans l16 (View.le_trans l17 l18))) (h13.le (View.le_trans l17 l18)) hl5 hb2 (fun _ => ⟨rfl, c1, hl1, rfl⟩) (fun g => absurd g (by decide))
     · have c : b = true := by simpa using c
       subst c
       rw [← eP] at hb2 h13
       exact k0f hL5 k64 fun c2 w5' V18 l18 hl5 => fin V18 r13 true t16c c2 w5' o16 _ (View.le_trans Ld (View.le_trans l16 l18)) (h13.le l18) hl5 hb2 (fun g => absurd g (by decide)) (fun _ => ⟨rfl, hL1⟩)
   · subst c
     have hT : Y05 (a + d * natQ t15l) l = none := by cases hq : Y05 (a + d * natQ t15l) l with
      | none => rfl
      | some w => rw [hq] at hb; simp at hb
     have eP : f09 l s a d t15l = none := by unfold f09; rw [hT]; rfl
     refine ⟨fun _ => ?_, fun c => absurd c (by decide)⟩
     exact D0k hL1 (by omega) fun c1 w1' V17 l17 hl1 => k0f hL5 k64 fun c2 w5' V18 l18 hl5 => fin V18 r7 false c1 c2 w5' w1' _ (View.le_trans Lc (View.le_trans l15 (View.le_trans l17 l18))) (by rw [eP]; exact h7.le (View.le_trans l12 (View.le_trans l13 (View.le_trans l14 (View.le_trans l15 (View.le_trans l17 l18)))))) hl5 (by rw [eP]; rfl) (fun _ => ⟨rfl, c1, hl1, rfl⟩) (fun g => absurd g (by decide))
 · have e : t15l = n.toNat := by simp at hge; omega
   intro b8 V23 l23 hb8 b9 V24 l24 hb9
   rw [e0]
   refine ⟨⟨lstA b8 t15c, _, t15c⟩, ⟨lstA b9 t16c, _, t16c⟩, rfl, ?_, ?_⟩
   · rw [if_pos rfl, ← e]
     exact O08.le l24 (x03 hL5 hb8 (hC5.imp (numC.le l23)) (by rw [g01]))
   · rw [if_pos rfl, ← e]
     exact x03 hL1 hb9 (q01.imp (P := intC) (V := V9) (V' := V24) (fun _ _ e => e) hC1) rfl

theorem y0h {V : View} {s : Sl} {l : List Tk} (h : Z0a V s l) {S : Nat} (hz : ∀ k ∈ l, k.szle S) (h2 : 2 ≤ S) (hS : S ≤ 2 ^ 30) (hn : l.length ≤ 2 ^ 20) :
 a00 prog m0b #[s.v] V fun v _ => ∃ r : Int, v = .int .i64 r ∧ r = B06 (strT l) := by
 have hl : s.len = l.length := h.len
 refine U0a s V _ (fun _ x V' => ∃ (t : Nat) (l3 : List Value), x.t4 = t ∧ t ≤ l.length ∧ Z00 10 x.t3l x.t3c x.o3 l3 ∧ x.t3l = t ∧ q01 10 i0a V' l3 (strT (l.take t))) (fun _ x _ => l.length - x.t4.toNat) ⟨⟨0, [], rfl, by omega, Z00.nil, rfl, rfl⟩, ?_⟩
 rintro ⟨t3l, t3c, t4, o3⟩ V1 l1 ⟨t, l3, et, ht, hL, e3, hC⟩
 dsimp only at et hL e3 hC ⊢
 subst et; subst e3
 rw [hl]
 refine ⟨fun hlt => ?_, fun hge => ?_⟩
 · have hk : t3l < l.length := by simp at hlt; omega
   have ek : l[t3l]? = some l[t3l] := List.getElem?_eq_getElem hk
   obtain ⟨g, y, hy, _, hs, ⟨ht1, ht2⟩, _⟩ := c08 (h.le l1) (t := (t3l : Int)) (by omega) (k := l[t3l]) (by rw [Int.toNat_natCast]; exact ek)
   rw [hl] at g
   have tm : strT (l.take (t3l + 1)) = strT (l.take t3l) ++ [⟨l[t3l].time, Cq.zero⟩] := by
    unfold strT; rw [List.take_add_one, ek, List.map_append]; rfl
   generalize l[t3l] = k at *
   refine ⟨g, hs, y.time, ht1, ht2, u0h.mono fun v V2 l2 ⟨r1, hv, h1⟩ => ⟨r1, hv, fun b1 V3 l3' _ hb1 => ?_⟩⟩
   refine ⟨l3, (b09.mk y.time r1).val.cells.toList, hL, K07 hb1, rfl, ?_, by unfold maxLen; omega, by omega, fun c1 l4 hl4 => ?_⟩
   · intro v hv
     rcases List.mem_append.1 (show v ∈ y.time.val.cells.toList ++ r1.val.cells.toList from hv) with hv | hv
     · exact U04 y.time v hv
     · exact U04 r1 v hv
   rw [i64w (by omega) (by omega)]
   refine ⟨⟨t3l + 1, _, by omega, by omega, hl4, rfl, ?_⟩, by omega⟩
   rw [tm]
   exact (hC.imp (i0a.le (View.le_trans l2 l3'))).append (q01.one rfl ⟨_, rfl, hy.time.le (View.le_trans l2 l3'), h1.le l3'⟩)
 · have e : t3l = l.length := by simp at hge; omega
   subst e
   rw [List.take_length] at hC
   intro b2 V4 l4 hb2
   have hT : Z0a V4 ⟨lstA b2 t3c, l.length, t3c⟩ (strT l) := x03 hL hb2 (hC.imp (i0a.le l4)) (by unfold strT; rw [List.length_map])
   exact (I0e hT (t0s h2 hz) hS).mono fun v V5 _ ⟨r, hv, hr⟩ => ⟨r, hv, r, rfl, hr⟩
theorem F0k {V : View} {s : Sl} {l : List Tk} (h : Z0a V s l) {x : NumV} {t : Cq} (hx : QAt V x t) (d : t.im = 0) (ar : ∀ k ∈ l, k.time.im = 0) (hn : l.length ≤ 2 ^ 20) {S : Nat} (hz : ∀ k ∈ l, k.szle S) (zt : t.sz ≤ S) (hS : S ≤ 2 ^ 28) :
 a00 prog t0c #[s.v, x.val] V fun v V' => ∃ (r : NumV) (b : Bool), v = .tuple #[r.val, .bool b] ∧ b = (J06 t none l).isSome ∧ QAt V' r ((J06 t none l).getD Cq.zero) := by
 have hl : s.len = l.length := h.len
 have yes : ∀ V' (r : NumV) (w : Cq), J06 t none l = some w → QAt V' r w → ∃ (r' : NumV) (b : Bool), Value.tuple #[r.val, .bool true] = .tuple #[r'.val, .bool b] ∧ b = (J06 t none l).isSome ∧ QAt V' r' ((J06 t none l).getD Cq.zero) := fun V' r w g hr => by
  rw [g]; exact ⟨r, _, rfl, rfl, hr⟩
 refine e0c s x V _ (fun _ z _ => ∃ i : Nat, z.t6 = i ∧ i ≤ l.length ∧ J06 t none l = J06 t (E04 l i) (l.drop i)) (fun _ z _ => l.length - z.t6.toNat) ⟨⟨0, rfl, by omega, rfl⟩, ?_⟩
 rintro ⟨t6, o4⟩ V5 l5 ⟨i, ei, hi, hE⟩
 dsimp only at ei ⊢
 subst ei
 rw [hl]
 refine ⟨fun hlt => ?_, fun hge => ?_⟩
 · have hk : i < l.length := by simp at hlt; omega
   have ek : l[i]? = some l[i] := List.getElem?_eq_getElem hk
   have kr := ar _ (List.getElem_mem hk)
   obtain ⟨zk1, zk2⟩ := hz _ (List.getElem_mem hk)
   rw [B0b ek] at hE
   obtain ⟨g, y, hy, _, hs, ⟨ht1, ht2⟩, hp1, hp2⟩ := c08 (h.le l5) (t := (i : Int)) (by omega) (k := l[i]) (by rw [Int.toNat_natCast]; exact ek)
   rw [hl] at g
   generalize l[i] = k at *
   have hxx := hx.le l5
   have eR : J06 t none l = if k.time = t then some k.place else match E04 l i with
    | none => J06 t (some k) (l.drop (i + 1))
    | some p => if p.time.re < t.re ∧ t.re < k.time.re then some (d05 p.place k.place (t06 t p.time k.time)) else J06 t (some k) (l.drop (i + 1)) := by
    rw [hE]
    cases E04 l i <;> rfl
   rw [i64w (n := (i : Int) + 1) (by omega) (by omega)]
   have step : J06 t none l = J06 t (some k) (l.drop (i + 1)) → (∃ j : Nat, ((i : Int) + 1) = j ∧ j ≤ l.length ∧ J06 t none l = J06 t (E04 l j) (l.drop j)) ∧ l.length - ((i : Int) + 1).toNat < l.length - (i : Int).toNat :=
    fun he => ⟨⟨i + 1, by omega, by omega, by rw [C06, ek]; exact he⟩, by omega⟩
   refine ⟨g, hs, y.time, ht1, ht2, (A0a hy.time hxx (by omega) (by omega)).mono fun v V6 l6 hv => ⟨_, hv, fun e => ?_, fun e => ⟨fun c0 => ?_, fun c0 => step ?_⟩⟩⟩
   · have e : k.time = t := by simpa using e
     exact ⟨g, hs, y.place, x01 l6 hp1, hp2, yes V6 _ _ (by rw [eR, if_pos e]) (hy.place.le l6)⟩
   · have e : ¬ k.time = t := by simpa using e
     rw [if_neg e] at eR
     have hpos : 0 < i := by simp at c0; omega
     have ep : l[i - 1]? = some l[i - 1] := List.getElem?_eq_getElem (by omega)
     have hpa : E04 l i = some l[i - 1] := by unfold E04; rw [if_neg (by omega), ep]
     have pr := ar _ (List.getElem_mem (show i - 1 < l.length by omega))
     obtain ⟨zq1, zq2⟩ := hz _ (List.getElem_mem (show i - 1 < l.length by omega))
     obtain ⟨g', y', hy', _, hs', ⟨ht1', ht2'⟩, hp1', hp2'⟩ := c08 (h.le l5) (t := (i : Int) - 1) (by omega) (k := l[i - 1]) (by rw [show ((i : Int) - 1).toNat = i - 1 by omega]; exact ep)
     rw [hl] at g'
     generalize l[i - 1] = q at *
     rw [hpa] at eR
     simp only at eR
     rw [i64w (n := (i : Int) - 1) (by omega) (by omega)]
     have zt' := Nat.le_trans (o0s zt d) (show S ≤ 2 ^ 38 by omega)
     have zq' := Nat.le_trans (o0s zq1 pr) (show S ≤ 2 ^ 38 by omega)
     have zk' := Nat.le_trans (o0s zk1 kr) (show S ≤ 2 ^ 38 by omega)
     refine ⟨g', hs', y'.time, x01 l6 ht1', ht2', (K0b (e0j (hy'.time.le l6) pr) (e0j (hxx.le l6) d) zq' zt').mono fun v V7 l7 hv => ⟨_, hv, fun c1 => ?_, fun c1 => step ?_⟩⟩
     · have lt1 : q.time.re < t.re := by
         rcases J04 q.time.re t.re with ⟨g, _⟩ | ⟨_, g⟩ | ⟨_, g⟩
         · exact g
         · rw [g] at c1; simp at c1
         · rw [g] at c1; simp at c1
       have L7 := View.le_trans l6 l7
       refine ⟨g, hs, y.time, x01 L7 ht1, ht2, (K0b (e0j (hxx.le L7) d) (e0j (hy.time.le L7) kr) zt' zk').mono fun v V8 l8 hv => ⟨_, hv, fun c2 => ?_, fun c2 => step ?_⟩⟩
       · have lt2 : t.re < k.time.re := by
           rcases J04 t.re k.time.re with ⟨g, _⟩ | ⟨_, g⟩ | ⟨_, g⟩
           · exact g
           · rw [g] at c2; simp at c2
           · rw [g] at c2; simp at c2
         have L8 := View.le_trans L7 l8
         refine ⟨g', hs', y'.time, x01 L8 ht1', ht2', g', hs', y'.place, x01 L8 hp1', hp2', g, hs, y.time, x01 L8 ht1, ht2, g, hs, y.place, x01 L8 hp1, hp2, ?_⟩
         exact (P0c (hxx.le L8) (hy'.time.le L8) (hy'.place.le L8) (hy.time.le L8) (hy.place.le L8) zt zq1 zq2 zk1 zk2 hS).mono fun v V9 l9 ⟨r8, hv, h8⟩ => ⟨r8, hv, yes V9 _ _ (by rw [eR, if_pos ⟨lt1, lt2⟩]) h8⟩
       · rw [eR, if_neg]
         rintro ⟨_, g⟩
         rcases J04 t.re k.time.re with ⟨_, g'⟩ | ⟨g', _⟩ | ⟨g', _⟩
         · rw [g'] at c2; simp at c2
         · grind
         · grind
     · rw [eR, if_neg]
       rintro ⟨g, _⟩
       rcases J04 q.time.re t.re with ⟨_, g'⟩ | ⟨g', _⟩ | ⟨g', _⟩
       · rw [g'] at c1; simp at c1
       · grind
       · grind
   · have e : ¬ k.time = t := by simpa using e
     have : i = 0 := by simp at c0; omega
     subst this
     rw [eR, if_neg e]; rfl
 · have e : i = l.length := by simp at hge; omega
   subst e
   rw [List.drop_length] at hE
   have hno : J06 t none l = none := by rw [hE]; cases E04 l l.length <;> rfl
   rw [hno]
   exact u0h.mono fun v V6 _ ⟨r9, hv, h9⟩ => ⟨r9, hv, _, _, rfl, rfl, h9⟩
def m0v (V' : View) (e : Int) (n : Nat) (f : Nat → Cq) (miss : List Int) (r1 r2 : Sl) : Prop := QsAt V' r1 (if e = 0 then rowL n f else []) ∧ o00 1 intC V' r2 (if e = 0 then miss else [])
theorem B0q {a d : Cq} (ha : a.im = 0) (hd : d.im = 0) (k : Nat) : (a + d * natQ k).im = 0 := by
 rw [L0n ha, L0n hd, show natQ k = rq ((k : Int) : Rat) from rfl, G0t, E0t]; rfl
set_option maxHeartbeats 2000000 in
theorem A0m {V : View} {p q : Sl} {l s : List Tk} {x y : NumV} {a d : Cq} {n : Int} (h : Z0a V p l) (k : Z0a V q s) (hx : QAt V x a) (hy : QAt V y d) (hl : ∀ k ∈ l, k.szle 64) (hs : ∀ k ∈ s, k.szle 64) (ha : a.sz ≤ 64) (hd : d.sz ≤ 64) (hsn : s.length ≤ 2 ^ 20) :
 a00 prog p0d #[p.v, q.v, x.val, y.val, .int .i64 n] V fun v V' => ∃ r1 r2 : Sl, v = .tuple #[r1.v, r2.v, .int .i64 (e09 l s a d n)] ∧ m0v V' (e09 l s a d n) n.toNat (e0f l s a d) (j07 l s a d n.toNat) r1 r2 := by
 have nil : ∀ (e : Int) (V' : View), e09 l s a d n = e → e ≠ 0 → ∃ r1 r2 : Sl, Value.tuple #[(Sl.mk none 0 0).v, (Sl.mk none 0 0).v, .int .i64 e] = .tuple #[r1.v, r2.v, .int .i64 (e09 l s a d n)] ∧ m0v V' (e09 l s a d n) n.toNat (e0f l s a d) (j07 l s a d n.toNat) r1 r2 := fun e V' he h0 => by
  rw [he]
  exact ⟨⟨none, 0, 0⟩, ⟨none, 0, 0⟩, rfl, by rw [if_neg h0]; exact o00.nil, by rw [if_neg h0]; exact o00.nil⟩
 refine B0c p q x y n V _ (fun _ _ _ => a.im = 0 ∧ d.im = 0 ∧ d ≠ Cq.zero) (fun _ _ _ => 1 ≤ n ∧ n ≤ 64)
  (fun _ z V' => ∃ (t : Nat) (l5 l1 : List Value), z.t17 = t ∧ (t : Int) ≤ n ∧ Z00 5 z.t15l z.t15c z.o15 l5 ∧ z.t15l = t ∧ q01 5 qC V' l5 (rowL t (e0f l s a d)) ∧ Z00 1 z.t16l z.t16c z.o16 l1 ∧ z.t16l = (j07 l s a d t).length ∧ q01 1 intC V' l1 (j07 l s a d t)) (fun _ z _ => n.toNat - z.t17.toNat) ?_
 refine (I0e h hl (by omega)).mono fun v V1 l1 ⟨r1, hv, e1⟩ => ⟨r1, hv, fun c => ?_, fun c => ?_⟩
 · have c : B06 l ≠ 0 := by rw [← e1]; simpa using c
   rw [e1]; exact nil _ V1 (by unfold e09; rw [if_neg c]) c
 have c1 : B06 l = 0 := by rw [← e1]; simpa using c
 obtain ⟨tn1, tn2, asc⟩ := y0e c1
 refine (y0h (k.le l1) hs (by omega) (by omega) hsn).mono fun v V3 l3 ⟨r2, hv, e2⟩ => ⟨r2, hv, fun c => ?_, fun c => ⟨?_, ?_⟩⟩
 · have c : B06 (strT s) ≠ 0 := by rw [← e2]; simpa using c
   rw [e2]; exact nil _ V3 (by unfold e09; rw [if_pos c1, if_neg c]) c
 all_goals have c2 : B06 (strT s) = 0 := by rw [← e2]; simpa using c
 all_goals have L3 := View.le_trans l1 l3
 · refine (m0a (hx.le L3) (by omega)).mono fun v V5 l5 hv => ⟨_, hv, fun c => ?_, fun c => ?_⟩
   · have c : ¬ a.im = 0 := by simpa using c
     exact nil 1 V5 (d0b c1 c2 (by rintro ⟨g, _⟩; exact c g)) (by decide)
   have r1 : a.im = 0 := by simpa using c
   refine (m0a (hy.le (View.le_trans L3 l5)) (by omega)).mono fun v V6 l6 hv => ⟨_, hv, fun c => ?_, fun c => ?_⟩
   · have c : ¬ d.im = 0 := by simpa using c
     exact nil 1 V6 (d0b c1 c2 (by rintro ⟨_, g, _⟩; exact c g)) (by decide)
   have r2 : d.im = 0 := by simpa using c
   refine (K0d (hy.le (View.le_trans L3 (View.le_trans l5 l6)))).mono fun v V7 l7 hv => ⟨_, hv, fun c => ?_, fun c => ⟨r1, r2, by simpa using c⟩⟩
   have c : d = Cq.zero := by simpa using c
   exact nil 1 V7 (d0b c1 c2 (by rintro ⟨_, _, g⟩; exact g c)) (by decide)
 have ascS := Y0r (y0e c2).2.2
 rintro ⟨u⟩ V4 l4 hr
 have eE : e09 l s a d n = if 1 ≤ n ∧ n ≤ 64 then 0 else 4 := by unfold e09; rw [if_pos c1, if_pos c2, if_pos hr]
 refine ⟨⟨fun c => nil 4 V4 ?_ (by decide), fun c => ⟨fun c' => nil 4 V4 ?_ (by decide), fun c' => ?_⟩⟩, ?_⟩
 · rw [eE, if_neg (by simp at c; omega)]
 · rw [eE, if_neg (by simp at c'; omega)]
 · simp at c c'; exact ⟨by omega, by omega⟩
 rintro ⟨u'⟩ V8 l8 ⟨n1, n64⟩
 have e0 : e09 l s a d n = 0 := by rw [eE, if_pos ⟨n1, n64⟩]
 have L8 := View.le_trans L3 (View.le_trans l4 l8)
 refine ⟨⟨0, [], [], rfl, by omega, Z00.nil, rfl, rfl, Z00.nil, rfl, rfl⟩, ?_⟩
 rintro ⟨t15l, t15c, t16l, t16c, t17, o15, o16⟩ V9 l9 ⟨t, w5, w1, et, ht, hL5, e5, hC5, hL1, e1', hC1⟩
 dsimp only at et hL5 e5 hC5 hL1 e1' hC1 ⊢
 subst et; subst e5; subst e1'
 have L9 := View.le_trans L8 l9
 refine ⟨fun hlt => ?_, fun hge => ?_⟩
 · have hk : (t15l : Int) < n := by simpa using hlt
   have k64 : t15l ≤ 64 := by omega
   have m64 := i0h l s a d t15l
   rw [i64w (by omega) (by omega)]
   have fin : ∀ (Vx : View) (r : NumV) (b : Bool) (cc c6 : Nat) (w5' w1' : List Value) (hm : Nat), View.le V9 Vx → QAt Vx r ((f09 l s a d t15l).getD Cq.zero) →
    Z00 5 (t15l + 1) c6 w5' (w5 ++ r.val.cells.toList) → b = (f09 l s a d t15l).isSome → (b = false → hm = (j07 l s a d t15l).length + 1 ∧ ∃ c, Z00 1 hm cc w1' (w1 ++ [.int .i64 (t15l : Int)]) ∧ c = cc) → (b = true → hm = (j07 l s a d t15l).length ∧ Z00 1 hm cc w1' w1) →
    (∃ (t' : Nat) (l5 l1 : List Value), ((t15l : Int) + 1) = t' ∧ (t' : Int) ≤ n ∧ Z00 5 (t15l + 1) c6 w5' l5 ∧ t15l + 1 = t' ∧ q01 5 qC Vx l5 (rowL t' (e0f l s a d)) ∧ Z00 1 hm cc w1' l1 ∧ hm = (j07 l s a d t').length ∧ q01 1 intC Vx l1 (j07 l s a d t')) ∧ n.toNat - ((t15l : Int) + 1).toNat < n.toNat - (t15l : Int).toNat := by
    intro Vx r b cc c6 w5' w1' hm hle hr hl5 hb h0 h1
    have c5 : q01 5 qC Vx (w5 ++ r.val.cells.toList) (rowL (t15l + 1) (e0f l s a d)) := by
     rw [S0o]
     exact (hC5.imp (qC.le hle)).append (q01.one rfl ⟨r, rfl, hr⟩)
    cases b with
    | false =>
      obtain ⟨g1, c, g2, rfl⟩ := h0 rfl
      have hn : (f09 l s a d t15l).isNone = true := by cases hq : f09 l s a d t15l with
       | none => rfl
       | some w => rw [hq] at hb; simp at hb
      have em : j07 l s a d (t15l + 1) = j07 l s a d t15l ++ [(t15l : Int)] := by rw [j0d, if_pos hn]
      refine ⟨⟨t15l + 1, _, _, by omega, by omega, hl5, rfl, c5, g2, by rw [em, g1]; simp, ?_⟩, by omega⟩
      rw [em]
      exact (q01.imp (P := intC) (V := V9) (V' := Vx) (fun _ _ e => e) hC1).append (q01.one rfl rfl)
    | true =>
      obtain ⟨g1, g2⟩ := h1 rfl
      have hn : ¬ (f09 l s a d t15l).isNone = true := by cases hq : f09 l s a d t15l with
       | none => rw [hq] at hb; simp at hb
       | some w => simp
      have em : j07 l s a d (t15l + 1) = j07 l s a d t15l := by rw [j0d, if_neg hn]
      refine ⟨⟨t15l + 1, _, _, by omega, by omega, hl5, rfl, c5, g2, by rw [em, g1], ?_⟩, by omega⟩
      rw [em]
      exact q01.imp (P := intC) (V := V9) (V' := Vx) (fun _ _ e => e) hC1
   refine u0h.mono fun v V10 l10 ⟨r6, hv, h6⟩ => ⟨r6, hv, ?_⟩
   refine (N09 (n := (t15l : Int)) (by omega) (by omega)).mono fun v V12 l12 ⟨r7, hv, h7⟩ => ⟨r7, hv, ?_⟩
   have h7 : QAt V12 r7 (natQ t15l) := h7
   have La := View.le_trans l10 l12
   have zk := X0n k64
   have zm := Q02 (natQ t15l) d
   refine (w09 h7 (hy.le (View.le_trans L9 La)) (by omega) (by omega)).mono fun v V13 l13 ⟨r8, hv, h8⟩ => ⟨r8, hv, ?_⟩
   have Lb := View.le_trans La l13
   refine (J0b (hx.le (View.le_trans L9 Lb)) h8 (by omega) (by omega)).mono fun v V14 l14 ⟨r9, hv, h9⟩ => ⟨r9, hv, ?_⟩
   rw [Cq.mul_comm (natQ t15l)] at h9
   have Lc := View.le_trans Lb l14
   have zp := E0k ha hd k64
   have pr := B0q hr.1 hr.2.1 t15l
   have hl300 : ∀ k ∈ l, k.szle 300 := fun k hk => ⟨Nat.le_trans (hl k hk).1 (by omega), Nat.le_trans (hl k hk).2 (by omega)⟩
   have feq := X0s pr (l := l) (fun k hk => (G0o asc k hk).2)
   refine (z0k (h.le (View.le_trans L9 Lc)) (by omega) h9 hl300 zp (by omega)).mono fun v V15 l15 ⟨r11, b, hv, hb, h11⟩ => ⟨r11, b, hv, fun c => ?_, fun c => ?_⟩
   · rw [← feq] at hb h11
     subst c
     obtain ⟨T, hT⟩ := Option.isSome_iff_exists.1 hb.symm
     rw [hT] at h11
     have h11 : QAt V15 r11 T := h11
     have zT : T.sz ≤ 6000 := Nat.le_trans (x0h hl300 zp T hT) (by omega)
     have hs6 : ∀ k ∈ s, k.szle 6000 := fun k hk => ⟨Nat.le_trans (hs k hk).1 (by omega), Nat.le_trans (hs k hk).2 (by omega)⟩
     have Tr := (X0r pr asc hT).1
     have eP : f09 l s a d t15l = J06 T none s := by
      unfold f09; rw [hT]
      exact Z0l Tr s none ascS (fun p h => by simp at h)
     have Ld := View.le_trans Lc l15
     refine (F0k (k.le (View.le_trans L9 Ld)) h11 Tr (Y0l ascS) hsn hs6 zT (by omega)).mono fun v V16 l16 ⟨r13, b, hv, hb2, h13⟩ => ⟨r13, b, hv, fun c => ?_, fun c => ?_⟩
     · have c : b = false := by simpa using c
       subst c
       rw [← eP] at hb2 h13
       exact D0k hL1 (by omega) fun c1 w1' V17 l17 hl1 => k0f hL5 k64 fun c2 w5' V18 l18 hl5 => fin V18 r13 false c1 c2 w5' w1' _ (View.le_trans Ld (View.le_trans l16 (View.le_trans l17 l18))) (h13.le (View.le_trans l17 l18)) hl5 hb2 (fun _ => ⟨rfl, c1, hl1, rfl⟩) (fun g => absurd g (by decide))
     · have c : b = true := by simpa using c
       subst c
       rw [← eP] at hb2 h13
       exact k0f hL5 k64 fun c2 w5' V18 l18 hl5 => fin V18 r13 true t16c c2 w5' o16 _ (View.le_trans Ld (View.le_trans l16 l18)) (h13.le l18) hl5 hb2 (fun g => absurd g (by decide)) (fun _ => ⟨rfl, hL1⟩)
   · rw [← feq] at hb
     subst c
     have hT : Y05 (a + d * natQ t15l) l = none := by cases hq : Y05 (a + d * natQ t15l) l with
      | none => rfl
      | some w => rw [hq] at hb; simp at hb
     have eP : f09 l s a d t15l = none := by unfold f09; rw [hT]; rfl
     refine ⟨fun _ => ?_, fun c => absurd c (by decide)⟩
     exact D0k hL1 (by omega) fun c1 w1' V17 l17 hl1 => k0f hL5 k64 fun c2 w5' V18 l18 hl5 => fin V18 r6 false c1 c2 w5' w1' _ (View.le_trans Lc (View.le_trans l15 (View.le_trans l17 l18))) (by rw [eP]; exact h6.le (View.le_trans l12 (View.le_trans l13 (View.le_trans l14 (View.le_trans l15 (View.le_trans l17 l18)))))) hl5 (by rw [eP]; rfl) (fun _ => ⟨rfl, c1, hl1, rfl⟩) (fun g => absurd g (by decide))
 · have e : t15l = n.toNat := by simp at hge; omega
   intro b8 V23 l23 hb8 b9 V24 l24 hb9
   rw [e0]
   refine ⟨⟨lstA b8 t15c, _, t15c⟩, ⟨lstA b9 t16c, _, t16c⟩, rfl, ?_, ?_⟩
   · rw [if_pos rfl, ← e]
     exact QsAt.le l24 (x03 hL5 hb8 (hC5.imp (qC.le l23)) (by rw [g01]))
   · rw [if_pos rfl, ← e]
     exact x03 hL1 hb9 (q01.imp (P := intC) (V := V9) (V' := V24) (fun _ _ e => e) hC1) rfl

theorem q0t {l s : List Tk} {a d : Cq} {k : Nat} (hl : ∀ k ∈ l, k.szle 64) (hs : ∀ k ∈ s, k.szle 64) (ha : a.sz ≤ 64) (hd : d.sz ≤ 64) (hk : k ≤ 64) : (e0f l s a d k).sz ≤ 2 ^ 20 := by
 have zp := E0k ha hd hk
 have hl300 : ∀ k ∈ l, k.szle 300 := fun k hk => ⟨Nat.le_trans (hl k hk).1 (by omega), Nat.le_trans (hl k hk).2 (by omega)⟩
 unfold e0f
 refine q0u (by omega) fun w hw => ?_
 unfold f09 at hw
 obtain ⟨T, hT, hw⟩ := Option.bind_eq_some_iff.1 hw
 have zT : T.sz ≤ 6000 := Nat.le_trans (x0h hl300 zp T hT) (by omega)
 exact Nat.le_trans (w0m zT s none (fun k hk => ⟨Nat.le_trans (hs k hk).1 (by omega), Nat.le_trans (hs k hk).2 (by omega)⟩) (fun k h => by simp at h) w hw) (by omega)
theorem w0s {V : View} {s : Sl} {zs : List Int} (h : o00 1 intC V s zs) {t : Nat} (ht : t < zs.length) :
 ((0 : Int) ≤ (t : Int) ∧ (t : Int) < (s.len : Nat) ∧ Option.isSome s.a = true) ∧ V.load (Option.map (fun q => Addr.add q (Int.toNat (t : Int) * 1)) s.a) = some (.int .i64 zs[t]) := by
 obtain ⟨g, x, hx, _, hh, _⟩ := o00.get h (t := (t : Int)) (by omega) (z := zs[t]) (by rw [Int.toNat_natCast]; exact List.getElem?_eq_getElem ht)
 subst hx
 exact ⟨g, w0o hh⟩
set_option maxHeartbeats 2000000 in
theorem n0i {V : View} {p q : Sl} {ks us : List Z09} {x y : RatV} {n : Int} (h : o00 6 ltC V p ks) (k : o00 6 ltC V q us) (hi : ∀ k ∈ ks, ltI k) (hj : ∀ k ∈ us, ltI k) (hx : ratI x) (hy : ratI y) :
 a00 prog q0a #[p.v, q.v, x.val, y.val, .int .i64 n] V fun v _ => v = .bool true := by
 have hl : p.len = ks.length := h.len
 have hq : q.len = us.length := k.len
 have aw : ∀ {V : View}, a00 prog z08 #[] V fun v V' => ∃ r : Bool, v = .bool r ∧ Value.bool r = .bool true := fun {V} => A0k.mono fun v V' _ hv => ⟨_, hv, rfl⟩
 have zk := j0v hi
 have zu := j0v hj
 have zx := H0e hx
 have zy := H0e hy
 refine U09 p q x y n V _ (fun _ _ _ => ks.length ≤ 40 ∧ us.length ≤ 40)
  (fun c z V' => ∃ (t : Nat) (l4 l5 : List Value), z.t40 = t ∧ t ≤ us.length ∧ Z00 10 z.t13l z.t13c z.o13 l4 ∧ z.t13l = t ∧ q01 10 Q0f V' l4 ((us.take t).map ltT) ∧ Z00 10 z.t14l z.t14c z.o14 l5 ∧ z.t14l = t ∧ q01 10 i0a V' l5 ((us.take t).map ltT)) (fun _ z _ => us.length - z.t40.toNat)
  (fun _ _ _ => True) (fun c z _ => ∃ t : Nat, z.t107 = t ∧ t ≤ c.t21.len) (fun c z _ => c.t21.len - z.t107.toNat) ?_
 rw [hl, hq]
 refine ⟨⟨fun _ => aw, fun c => ⟨fun _ => aw, fun c' => ⟨by simp at c; omega, by simp at c'; omega⟩⟩⟩, ?_⟩
 rintro ⟨u⟩ V1 l1 ⟨n1, n2⟩
 refine (B0k (o00.le (V := V) (V' := V1) (P := ltC) (fun _ _ e => e) l1 h) hi (by omega)).mono fun v V4 l4 ⟨r3, r4, hv, h3, h4⟩ => ⟨r3, r4, hv, ?_⟩
 refine ⟨⟨0, [], [], rfl, by omega, Z00.nil, rfl, rfl, Z00.nil, rfl, rfl⟩, ?_⟩
 rintro ⟨t13l, t13c, t14l, t14c, t40, o13, o14⟩ V5 l5 ⟨t, w4, w5, et, ht, hL4, e4, hC4, hL5, e5, hC5⟩
 dsimp only at et hL4 e4 hC4 hL5 e5 hC5 ⊢
 subst et; subst e4
 obtain rfl : t14l = t13l := e5
 have L5 := View.le_trans l1 (View.le_trans l4 l5)
 refine ⟨fun hlt => ?_, fun hge => ?_⟩
 · have hk : t14l < us.length := by simp at hlt; omega
   have ek : us[t14l]? = some us[t14l] := List.getElem?_eq_getElem hk
   obtain ⟨hi1, hi2⟩ := hj _ (List.getElem_mem hk)
   obtain ⟨g, x, hx, _, hh, hs⟩ := o00.get (o00.le (V := V) (V' := V5) (P := ltC) (fun _ _ e => e) L5 k) (t := (t14l : Int)) (by omega) (z := us[t14l]) (by rw [Int.toNat_natCast]; exact ek)
   rw [hq] at g
   have tm := Q0o (f := ltT) ek
   generalize us[t14l] = k at *
   subst hx
   refine ⟨g, k, hh, hs, (p07 hi1).mono fun v V6 l6 ⟨r1, hv, a1⟩ => ⟨r1, hv, (p07 hi2).mono fun v V7 l7 ⟨r2, hv, a2⟩ => ⟨r2, hv, fun b1 V8 l8 _ hb1 => ?_⟩⟩⟩
   refine ⟨w4, (b09.mk r1 r2).val.cells.toList, hL4, K07 hb1, rfl, ?_, by unfold maxLen; omega, by omega, fun c1 l3' hl3 => ?_⟩
   · intro v hv
     rcases List.mem_append.1 (show v ∈ r1.val.cells.toList ++ r2.val.cells.toList from hv) with hv | hv
     · exact U04 r1 v hv
     · exact U04 r2 v hv
   refine (E06 hi1).mono fun v V9 l9 ⟨r3, hv, a3⟩ => ⟨r3, hv, (E06 hi2).mono fun v V10 l10 ⟨r4, hv, a4⟩ => ⟨r4, hv, fun b2 V11 l11 _ hb2 => ?_⟩⟩
   refine ⟨w5, (b09.mk r3 r4).val.cells.toList, hL5, K07 hb2, rfl, ?_, by unfold maxLen; omega, by omega, fun c2 l6' hl6 => ?_⟩
   · intro v hv
     rcases List.mem_append.1 (show v ∈ r3.val.cells.toList ++ r4.val.cells.toList from hv) with hv | hv
     · exact U04 r3 v hv
     · exact U04 r4 v hv
   rw [i64w (by omega) (by omega)]
   have L8b := View.le_trans l9 (View.le_trans l10 l11)
   have L7b := View.le_trans l8 L8b
   have L6b := View.le_trans l7 L7b
   have L5b := View.le_trans l6 L6b
   refine ⟨⟨t14l + 1, _, _, by omega, by omega, hl3, rfl, ?_, hl6, rfl, ?_⟩, by omega⟩
   · rw [tm]
     exact (hC4.imp (Q0f.le L5b)).append (q01.one rfl ⟨_, rfl, a1.le L6b, a2.le L7b⟩)
   · rw [tm]
     exact (hC5.imp (i0a.le L5b)).append (q01.one rfl ⟨_, rfl, a3.le (View.le_trans l10 l11), a4.le l11⟩)
 · have e : t14l = us.length := by simp at hge; omega
   subst e
   rw [List.take_length] at hC4 hC5
   intro b3 V12 l12 hb3
   have L45 := View.le_trans l5 l12
   have hS : S05 V12 ⟨lstA b3 t13c, us.length, t13c⟩ (us.map ltT) := x03 hL4 hb3 (hC4.imp (Q0f.le l12)) (by rw [List.length_map])
   refine (p07 hx).mono fun v V13 l13 ⟨r9, hv, h9⟩ => ⟨r9, hv, (p07 hy).mono fun v V14 l14 ⟨r10, hv, h10⟩ => ⟨r10, hv, ?_⟩⟩
   have L46 := View.le_trans L45 (View.le_trans l13 l14)
   refine (u0s (n := n) (h3.le L46) (hS.le (View.le_trans l13 l14)) (h9.le l14) h10 zk zu zx zy (by rw [List.length_map]; omega)).mono fun v V15 l15 ⟨r11, r12, hv, h11, h12⟩ => ⟨r11, r12, _, hv, fun b4 V16 l16 hb4 => ?_⟩
   have L5g := View.le_trans l12 (View.le_trans l13 (View.le_trans l14 (View.le_trans l15 l16)))
   have hQ : Z0a V16 ⟨lstA b4 t14c, us.length, t14c⟩ (us.map ltT) := x03 hL5 hb4 (hC5.imp (i0a.le L5g)) (by rw [List.length_map])
   refine (E06 hx).mono fun v V17 l17 ⟨r14, hv, h14⟩ => ⟨r14, hv, (E06 hy).mono fun v V18 l18 ⟨r15, hv, h15⟩ => ⟨r15, hv, ?_⟩⟩
   have L68 := View.le_trans l17 l18
   refine (A0m (n := n) (h4.le (View.le_trans l5 (View.le_trans L5g L68))) (hQ.le L68) (h14.le l18) h15 zk zu zx zy (by rw [List.length_map]; omega)).mono fun v V19 l19 ⟨r16, r17, hv, h16, h17⟩ => ⟨r16, r17, _, hv, ?_⟩
   have sz := fun k hk => q0t (k := k) zk zu zx zy hk
   have rng : e09 (ks.map ltT) (us.map ltT) (ratQ x) (ratQ y) n = 0 → n.toNat ≤ 64 := by
    intro e
    unfold e09 at e
    split at e
    · split at e
      · split at e
        · split at e
          · rename_i g; omega
          · exact absurd e (by decide)
        · exact absurd e (by decide)
      · rename_i g; exact absurd e g
    · rename_i g; exact absurd e g
   have hM := i0h (ks.map ltT) (us.map ltT) (ratQ x) (ratQ y) n.toNat
   generalize e09 (ks.map ltT) (us.map ltT) (ratQ x) (ratQ y) n = E at *
   generalize j07 (ks.map ltT) (us.map ltT) (ratQ x) (ratQ y) n.toNat = M at *
   generalize e0f (ks.map ltT) (us.map ltT) (ratQ x) (ratQ y) = f at *
   have L59 := View.le_trans l16 (View.le_trans L68 l19)
   have h12 := o00.le (V := V15) (V' := V19) (P := intC) (fun _ _ e => e) L59 h12
   have hlen : (if E = 0 then M else []).length = r12.len := h12.len.symm
   have hlen2 : r17.len = r12.len := by rw [h17.len, h12.len]
   have zs : ∀ i, i < (if E = 0 then rowL n.toNat f else []).length → (nth (if E = 0 then rowL n.toNat f else []) i).sz ≤ 2 ^ 40 := by
    intro i hi
    split at hi
    · rename_i e
      rw [g01] at hi
      rw [if_pos e]
      have e2 : nth (rowL n.toNat f) i = f i := by unfold nth; simp [List.getD, z06 hi]
      rw [e2]
      exact Nat.le_trans (sz i (by have := rng e; omega)) (by omega)
    · simp at hi
   have hz40 : (if E = 0 then rowL n.toNat f else []).length ≤ 2 ^ 40 := by
    split
    · rename_i e; rw [g01]; have := rng e; omega
    · simp
   refine ⟨⟨fun c => absurd c (by simp), fun _ => ?_⟩, ?_⟩
   · refine (Y0f (O08.le L59 h11) h16 hz40 zs).mono fun v V21 l21 hv => ⟨_, hv, fun c => absurd c (by decide), fun _ => ⟨fun c => ?_, fun _ => trivial⟩⟩
     rw [hlen2] at c; simp at c
   rintro ⟨u'⟩ V20 l20 _
   refine ⟨⟨0, rfl, by omega⟩, ?_⟩
   rintro ⟨t107⟩ V22 l22 ⟨i, ei, hi'⟩
   dsimp only at ei hi' ⊢
   subst ei
   have L9c := View.le_trans l20 l22
   have k12 := o00.le (V := V19) (V' := V22) (P := intC) (fun _ _ e => e) L9c h12
   have k17 := o00.le (V := V19) (V' := V22) (P := intC) (fun _ _ e => e) L9c h17
   refine ⟨fun hlt => ?_, fun _ => aw⟩
   have hk : i < (if E = 0 then M else []).length := by simp at hlt; omega
   obtain ⟨g1, g2⟩ := w0s k12 hk
   obtain ⟨g3, g4⟩ := w0s k17 hk
   refine ⟨g1, _, g2, g3, _, g4, fun c => absurd c (by simp), fun _ => ?_⟩
   have i64 : i < 64 := by
    by_cases e : E = 0
    · rw [if_pos e] at hk
      have := rng e
      omega
    · rw [if_neg e] at hk
      simp at hk
   rw [i64w (by omega) (by omega)]
   exact ⟨⟨i + 1, by omega, by omega⟩, by omega⟩
