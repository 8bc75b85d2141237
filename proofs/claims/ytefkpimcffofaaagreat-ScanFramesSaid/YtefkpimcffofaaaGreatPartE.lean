/- Part. -/
import Derived.Test.YtefkpimcffofaaaGreatPartD
import Derived.Laws.StructEq
namespace Go.Proofs.YtefkpimcffofaaaGreat
open Go Go.Vc Go.Proofs
open Go.Proofs.Tryz (prog)
open Go.IntKind (i64 u64 u32 u8)
set_option maxHeartbeats 4000000 in
theorem k04 {V : View} {s t : Sl} {a b : Nat} (hs : m00 V s a) (ht : m00 V t b) (ha : wn a ≤ 2 ^ 43) (hb0 : b ≠ 0) :
 a00 prog G07 #[s.v, t.v] V fun v V' => ∃ q r : Sl, v = .tuple #[q.v, r.v] ∧ m00 V' q (a / b) ∧ m00 V' r (a % b) := by
 have hsl := hs.len
 have htl := ht.len
 obtain ⟨sh, hsh⟩ : ∃ sh, sh = 32 - bl ((dig b).getD (wn b - 1) 0) := ⟨_, rfl⟩
 obtain ⟨hsh1, hwv, hlo⟩ := j0n hb0 hsh
 obtain ⟨X, hX⟩ : ∃ X, X = a * 2 ^ sh := ⟨_, rfl⟩
 obtain ⟨vN, hvN⟩ : ∃ v, v = b * 2 ^ sh := ⟨_, rfl⟩
 rw [← hvN] at hwv hlo
 obtain ⟨m, hm⟩ : ∃ m, m = s.len + 1 := ⟨_, rfl⟩
 obtain ⟨n, hn⟩ : ∃ n, n = t.len := ⟨_, rfl⟩
 have hna : wn a = s.len := hsl.symm
 have hnb : wn b = n := by rw [hn]; exact htl.symm
 have hal := u0c a
 rw [hna] at ha hal
 rw [hnb] at hwv hlo
 have hcmp := f0a hs ht (by omega)
 obtain ⟨v1, hv1⟩ : ∃ v1, v1 = (dig vN).getD (n - 1) 0 := ⟨_, rfl⟩
 obtain ⟨v2, hv2⟩ : ∃ v2, v2 = (dig vN).getD (n - 2) 0 := ⟨_, rfl⟩
 refine G0g s t V _
  (fun c x V' => ∃ (v : Sl) (j : Nat) (u qd : List Nat), c = n01.mk (sh : Nat) v (n : Nat) (m - n) (m - n) ∧ m00 V' v vN ∧ x = u01.mk ((j : Int) - 1) (wv u) (wv qd) ∧ DivI X vN n m j u qd)
  (fun _ x _ => (x.t13 + 1).toNat)
  (fun c x _ => ∃ (v : Sl) (j g : Nat) (u qd : List Nat), c = e01.mk (sh : Nat) v (n : Nat) (m - n) (m - n) (j : Nat) (wv u) (wv qd) ∧ x = w01.mk (g : Nat) ∧ g < 4294967296 ∧ seg u j (n + 1) / vN ≤ g ∧ (g - 1) * vN ≤ seg u j (n + 1))
  (fun c x _ => ∃ (v : Sl) (j g r : Nat) (u qd : List Nat), c = c01.mk (sh : Nat) v (n : Nat) (m - n) (m - n) (j : Nat) (wv u) (wv qd) ∧ x = f01.mk (g : Nat) (r : Nat) ∧ r < 4294967296 ∧ g * v1 + r = u.getD (j + n) 0 * 4294967296 + u.getD (j + n - 1) 0 ∧
    seg u j (n + 1) / vN ≤ g)
  (fun _ x _ => x.t15.toNat)
  (fun c x _ => ∃ (v : Sl) (j g i cr bo : Nat) (u qd u0 : List Nat), c = x01.mk (sh : Nat) v (n : Nat) (m - n) (m - n) (j : Nat) (g : Nat) ∧ x = C01.mk (bo : Nat) (cr : Nat) (i : Nat) (wv u) (wv qd) ∧ W0k X vN n m j g i cr bo u qd u0)
  (fun _ x _ => (n - x.t19).toNat)
  (fun c x _ => ∃ (v : Sl) (j g k cr : Nat) (u qd u0 l' : List Nat), c = y01.mk (sh : Nat) v (n : Nat) (m - n) (m - n) (j : Nat) ((g - 1 : Nat) : Int) ∧ x = D01.mk (cr : Nat) (k : Nat) (wv u) (wv qd) ∧ 0 < g ∧ d0j X vN n m j g k cr u qd u0 l')
  (fun _ x _ => (n - x.t23).toNat)
  (hcmp.mono fun v V1 l1 hv => ⟨_, hv, fun hlt => ?_, fun hge => ⟨fun h1 => ?_, fun h2 => ?_⟩⟩)
 · -- a below b
   have hlt : a < b := by
    rcases Nat.lt_or_ge a b with h | h
    · exact h
    · exfalso; revert hlt; rw [if_neg (by omega)]; split <;> simp
   exact ⟨_, _, rfl, by rw [Nat.div_eq_of_lt hlt]; exact m00.zero V1, by rw [Nat.mod_eq_of_lt hlt]; exact hs.le l1⟩
 · -- one word
   have h1 : n = 1 := by have : (t.len : Int) = 1 := (by simpa using h1); omega
   have hb1 : b < 4294967296 := by have := u0c b; rw [hnb, h1] at this; simpa using this
   have hd : (dig b).getD 0 0 = b := by rw [J0e]; simp; omega
   have hg := (ht.le l1).get (i := 0) (by omega) (by omega)
   simp only [Int.toNat_zero, hd] at hg
   refine ⟨⟨by omega, by omega, ht.isSome (by omega)⟩, _, hg, ?_⟩
   refine (C08 (hs.le l1) (by omega) (by omega) hb1).mono fun v V2 l2 ⟨q, hv, hq⟩ => ⟨q, _, hv, ?_⟩
   have hmod : a % b < b := Nat.mod_lt _ (by omega)
   rw [u64w (by omega) (by omega)]
   refine (i08 (by omega) (by omega)).mono fun v V3 l3 ⟨r, hv, hr⟩ => ⟨r, hv, q, r, rfl, hq.le l3, ?_⟩
   rw [Int.toNat_natCast] at hr; exact hr
 -- many words
 have hab : b ≤ a := by
  rcases Nat.lt_or_ge a b with h | h
  · exfalso; revert hge; rw [if_pos h]; simp
  · exact h
 have hnm : n ≤ s.len := by rw [← hna, ← hnb]; exact N08 hab
 have hn0 : n ≠ 0 := by rw [← hnb]; intro e; exact hb0 (C04.1 e)
 have hn2 : 2 ≤ n := by have : ¬ (t.len : Int) = 1 := (by simpa using h2); omega
 have E2 : i64.wrap ((s.len : Int) + 1) = (m : Nat) := by rw [i64w (by omega) (by omega)]; omega
 have E3 : i64.wrap ((m : Int) - (n : Int)) = ((m - n : Nat) : Int) := by rw [i64w (by omega) (by omega)]; omega
 have E1 : i64.wrap ((n : Int) - 1) = ((n - 1 : Nat) : Int) := by rw [i64w (by omega) (by omega)]; omega
 have E4 : i64.wrap ((n : Int) - 2) = ((n - 2 : Nat) : Int) := by rw [i64w (by omega) (by omega)]; omega
 have E5 : i64.wrap (((m - n : Nat) : Int) - 1) = ((m - n : Nat) : Int) - 1 := by rw [i64w (by omega) (by omega)]
 have E6 : (t.len : Int) = (n : Nat) := by omega
 have hblb := b0t hb0
 have hbltop : bl ((dig b).getD (wn b - 1) 0) ≤ 32 := by
  have h3 := (S07 hb0).2.2
  have := L0i h3
  have := (s04 b).getD (wn b - 1)
  have := (Nat.pow_lt_pow_iff_right (a := 2) (n := bl ((dig b).getD (wn b - 1) 0) - 1) (m := 32) (by omega)).1 (by omega)
  omega
 have Esh : i64.wrap (i64.wrap (32 * (t.len : Int)) - (bl b : Nat)) = (sh : Nat) := by
  rw [i64w (n := 32 * (t.len : Int)) (by omega) (by omega), i64w (by omega) (by omega)]; omega
 refine (P0d (ht.le l1) (by omega)).mono fun v V4 l4 hv => ⟨_, hv, ?_⟩
 simp only [Esh]
 refine (i0a (ht.le (View.le_trans l1 l4)) (by omega) (by omega)).mono fun v V5 l5 ⟨w, hv, hw⟩ => ⟨w, hv, ?_⟩
 rw [← hvN] at hw
 have hwl : w.len = n := by have := hw.len; simp only [wn] at hwv; omega
 simp only [E2, Int.toNat_natCast, hwl, E3, E1, E4, E5]
 refine ⟨⟨by omega, by omega, by omega, by omega⟩, (i0a (hs.le (View.le_trans l1 (View.le_trans l4 l5))) (by omega) (by omega)).mono fun v V6 l6 ⟨ua, hv, hua⟩ => ⟨ua, hv, ?_⟩⟩
 rw [← hX] at hua
 have hXm : wn X ≤ m := by
  refine u04 ?_
  rw [hX, hm, Nat.pow_succ]
  exact Nat.mul_lt_mul'' hal (Nat.lt_of_le_of_lt (Nat.pow_le_pow_right (by omega) hsh1) (by omega))
 have hual := hua.len
 simp only [wn] at hXm
 refine ⟨wv (dig X), q01.has hua, by rw [A00]; omega, ?_, ?_, ?_, ⟨by omega, by omega, by omega, by omega⟩, ?_⟩
 · by_cases h0 : ua.len = 0
   · left; have : (dig X).length = 0 := by omega
     rw [List.eq_nil_of_length_eq_zero this]; rfl
   · right; exact hua.isSome (by omega)
 · intro v hv; simp only [wv, List.mem_map] at hv; obtain ⟨d, _, rfl⟩ := hv; rfl
 · rw [e04, A00, A00]; simp; omega
 rw [e04, e04, X0p m (dig X) (by omega)]
 have hq0 : seg (dig X ++ List.replicate (m - (dig X).length) 0) 0 m = X := by
  rw [Q05 (by simp; omega), Q0m, d01]
 have h7 := G0k hal hm hX hsh1 (by omega) (by omega) hlo _ hq0
 refine ⟨⟨w, m - n, _, _, rfl, hw.le l6, rfl, by omega, ?_, by simp; omega, WB.zeros _, by simp, ?_, h7⟩, ?_⟩
 · intro d hd
   rcases List.mem_append.1 hd with hd | hd
   · exact s04 X d hd
   · rw [(List.mem_replicate.1 hd).2]; omega
 · rw [show m - n + n = m by omega, hq0, Nat.sub_self, x04]; simp
 rintro _ V7 hle7 ⟨w', j, u, qd, hc, hw7, rfl, hD⟩
 obtain rfl : w' = w := by simp only [n01.mk.injEq] at hc; exact hc.2.1.symm
 have hjl := hD.jl
 have hlu := hD.lu
 have hlq := hD.lq
 have hwu := hD.wu
 simp only [s0m]
 refine ⟨fun hp => ?_, fun hp b1 V12 l12 hb1 b2 V13 l13 hb2 => ?_⟩
 · simp only [ge_iff_le, decide_eq_true_eq] at hp
   obtain ⟨i, rfl⟩ : ∃ i, j = i + 1 := ⟨j - 1, by omega⟩
   have e0 : (((i + 1 : Nat) : Int) - 1) = (i : Nat) := by omega
   simp only [e0]
   have F1 : i64.wrap ((i : Int) + (n : Int)) = ((i + n : Nat) : Int) := by rw [i64w (by omega) (by omega)]; omega
   have F2 : i64.wrap (((i + n : Nat) : Int) - 1) = ((i + n - 1 : Nat) : Int) := by rw [i64w (by omega) (by omega)]; omega
   have F3 : i64.wrap (((i + n : Nat) : Int) - 2) = ((i + n - 2 : Nat) : Int) := by rw [i64w (by omega) (by omega)]; omega
   have F4 : i64.wrap ((i : Int) - 1) = (i : Int) - 1 := by rw [i64w (by omega) (by omega)]
   simp only [F1, F2, F3, F4, Int.toNat_natCast, Nat.zero_add, Nat.mul_one]
   have G := M0i hwu hn2 hwv hD.lt
   rw [← hv1, ← hv2] at G
   obtain ⟨W, hW⟩ : ∃ W, W = seg u i (n + 1) := ⟨_, rfl⟩
   obtain ⟨u2, hu2⟩ : ∃ x, x = u.getD (i + n) 0 := ⟨_, rfl⟩
   obtain ⟨u1, hu1⟩ : ∃ x, x = u.getD (i + n - 1) 0 := ⟨_, rfl⟩
   obtain ⟨u0, hu0⟩ : ∃ x, x = u.getD (i + n - 2) 0 := ⟨_, rfl⟩
   rw [← hW, ← hu2, ← hu1, ← hu0] at G
   have hu2l : u2 < 4294967296 := by rw [hu2]; exact hwu.getD _
   have hv1l := G.h1
   have hv1p := G.pos
   have hu1l := G.k1
   have hv1b : 2147483648 ≤ v1 := by
    have hvn0 : vN ≠ 0 := by rintro rfl; rw [d08] at hwv; omega
    have h3 := (S07 hvn0).2.1
    rw [hwv, ← hv1] at h3
    have h4 : 2147483648 * 4294967296 ^ (n - 1) < (v1 + 1) * 4294967296 ^ (n - 1) := by omega
    have := Nat.lt_of_mul_lt_mul_right h4
    omega
   have gv1 := (hw7).get (i := ((n - 1 : Nat) : Int)) (by omega) (by omega)
   rw [Int.toNat_natCast, ← hv1, Nat.mul_one] at gv1
   have gv2 := (hw7).get (i := ((n - 2 : Nat) : Int)) (by omega) (by omega)
   rw [Int.toNat_natCast, ← hv2, Nat.mul_one] at gv2
   have hws := hw7.isSome (by omega)
   have hor : BitVec.toNat ((BitVec.ofInt u64.bits (u64.wrap ((u64.wrap (u2 : Int)) * 4294967296))) ||| (BitVec.ofInt u64.bits (u64.wrap (u1 : Int)))) = u2 * 4294967296 + u1 := by
    rw [u64w (n := (u2 : Int)) (by omega) (by omega), u64w (n := (u1 : Int)) (by omega) (by omega), u64w (by omega) (by omega), show (u2 : Int) * 4294967296 = ((u2 * 4294967296 : Nat) : Int) by omega]
    exact or64 hu1l hu2l
   refine ⟨⟨by omega, by omega⟩, _, C06 (by omega), ⟨by omega, by omega⟩, _, C06 (by omega), ⟨by omega, by omega, hws⟩, _, gv1, ?_, ⟨by omega, by omega, hws⟩, _, gv1, ?_, ⟨?_, ?_⟩, ?_⟩
   · rw [u64w (by omega) (by omega)]; omega
   · rw [u64w (by omega) (by omega)]; omega
   · -- the first guess
     rw [← hu2, ← hu1, hor, u64w (n := (v1 : Int)) (by omega) (by omega), u64w (n := ((u2 * 4294967296 + u1 : Nat) : Int)) (by omega) (by omega), ← Int.ofNat_tdiv, ← Int.ofNat_tmod]
     have h3 : (u2 * 4294967296 + u1) / v1 ≤ u2 * 4294967296 + u1 := Nat.div_le_self _ _
     have h4 : (u2 * 4294967296 + u1) % v1 < v1 := Nat.mod_lt _ hv1p
     have h5 := Nat.div_add_mod' (u2 * 4294967296 + u1) v1
     have h6 := G.init
     generalize (u2 * 4294967296 + u1) / v1 = g at *
     generalize (u2 * 4294967296 + u1) % v1 = r at *
     rw [u64w (n := (g : Int)) (by omega) (by omega)]
     refine ⟨w', i, g, r, u, qd, rfl, rfl, by omega, ?_, ?_⟩
     · rw [← hu2, ← hu1]; exact h5
     · rw [← hW]; exact h6
   · -- the guess is put down
     rintro _ V9 l9 ⟨w2, i2, g, r, u', qd', hc2, rfl, hr, hgr, hge⟩
     simp only [c01.mk.injEq] at hc2
     obtain ⟨_, rfl, _, _, _, hi2, hu', hq'⟩ := hc2
     obtain rfl : i2 = i := by omega
     obtain rfl := j0e hu'
     obtain rfl := j0e hq'
     rw [← hu2, ← hu1] at hgr
     rw [← hW] at hge
     have hgl : g < 8589934592 := by
      rcases Nat.lt_or_ge g 8589934592 with h | h
      · exact h
      · exfalso
        have := Nat.mul_le_mul h hv1b
        omega
     have gv1' := S02 l9 gv1
     have gv2' := S02 l9 gv2
     simp only
     -- a step down
     have down : 0 < g → W / vN ≤ g - 1 → (4294967296 ≤ r + v1 → (g - 1 - 1) * vN ≤ W ∧ g - 1 < 4294967296) →
      ((decide (((u64.wrap ((r : Int) + (u64.wrap (v1 : Int)))) : Int) ≥ 4294967296)) = true →
        ∃ (v : Sl) (j g' : Nat) (u1 qd1 : List Nat), e01.mk (sh : Nat) w' (n : Nat) (m - n) (m - n) (i2 : Nat) (wv u) (wv qd) = e01.mk (sh : Nat) v (n : Nat) (m - n) (m - n) (j : Nat) (wv u1) (wv qd1) ∧ w01.mk (u64.wrap ((g : Int) - 1)) = w01.mk (g' : Nat) ∧ g' < 4294967296 ∧ seg u1 j (n + 1) / vN ≤ g' ∧ (g' - 1) * vN ≤ seg u1 j (n + 1)) ∧
      ((decide (((u64.wrap ((r : Int) + (u64.wrap (v1 : Int)))) : Int) ≥ 4294967296)) = false →
        (∃ (v : Sl) (j g' r' : Nat) (u1 qd1 : List Nat), c01.mk (sh : Nat) w' (n : Nat) (m - n) (m - n) (i2 : Nat) (wv u) (wv qd) = c01.mk (sh : Nat) v (n : Nat) (m - n) (m - n) (j : Nat) (wv u1) (wv qd1) ∧
          f01.mk (u64.wrap ((g : Int) - 1)) (u64.wrap ((r : Int) + (u64.wrap (v1 : Int)))) = f01.mk (g' : Nat) (r' : Nat) ∧ r' < 4294967296 ∧ g' * v1 + r' = u1.getD (j + n) 0 * 4294967296 + u1.getD (j + n - 1) 0 ∧ seg u1 j (n + 1) / vN ≤ g') ∧
        (u64.wrap ((g : Int) - 1)).toNat < (g : Int).toNat) := by
      intro h0 h1 h2
      rw [u64w (n := (v1 : Int)) (by omega) (by omega), u64w (n := (r : Int) + v1) (by omega) (by omega), u64w (n := (g : Int) - 1) (by omega) (by omega)]
      have e1 : (g : Int) - 1 = ((g - 1 : Nat) : Int) := by omega
      have e2 : (r : Int) + v1 = ((r + v1 : Nat) : Int) := by omega
      rw [e1, e2]
      refine ⟨fun h => ?_, fun h => ?_⟩
      · simp only [ge_iff_le, decide_eq_true_eq] at h
        obtain ⟨h3, h4⟩ := h2 (by omega)
        exact ⟨w', i2, g - 1, u, qd, rfl, rfl, h4, by rw [← hW]; exact h1, by rw [← hW]; exact h3⟩
      · simp only [ge_iff_le, decide_eq_false_iff_not] at h
        refine ⟨⟨w', i2, g - 1, r + v1, u, qd, rfl, rfl, by omega, ?_, by rw [← hW]; exact h1⟩, by omega⟩
        rw [← hu2, ← hu1, ← hgr]
        obtain ⟨k, rfl⟩ : ∃ k, g = k + 1 := ⟨g - 1, by omega⟩
        rw [Nat.succ_mul, Nat.add_sub_cancel]; omega
     refine ⟨fun hp2 => ⟨fun _ => ?_, fun h => by cases h⟩, fun hp2 => ?_⟩
     · simp only [ge_iff_le, decide_eq_true_eq] at hp2
       have hq := G.quo
       refine ⟨⟨by omega, by omega, hws⟩, _, gv1', ?_⟩
       exact down (by omega) (by omega) (fun h => (G.brk hgr (by omega) h).symm)
     · simp only [ge_iff_le, decide_eq_false_iff_not] at hp2
       have hg32 : g < 4294967296 := by omega
       have hv2l := G.h2
       have hm1 := a0d hg32 hv2l
       have hu0l := G.k0
       refine ⟨⟨by omega, by omega, hws⟩, _, gv2', ⟨by omega, by omega⟩, _, C06 (by omega), ?_⟩
       rw [← hu0]
       have hor2 : BitVec.toNat ((BitVec.ofInt u64.bits (u64.wrap ((r : Int) * 4294967296))) ||| (BitVec.ofInt u64.bits (u64.wrap (u0 : Int)))) = r * 4294967296 + u0 := by
        rw [u64w (n := (u0 : Int)) (by omega) (by omega), u64w (by omega) (by omega), show (r : Int) * 4294967296 = ((r * 4294967296 : Nat) : Int) by omega]
        exact or64 hu0l hr
       rw [hor2, u64w (n := (v2 : Int)) (by omega) (by omega), ← Int.natCast_mul, u64w (n := ((g * v2 : Nat) : Int)) (by omega) (by omega), u64w (n := ((r * 4294967296 + u0 : Nat) : Int)) (by omega) (by omega)]
       refine ⟨fun hp3 => ?_, fun hp3 => ?_⟩
       · simp only [gt_iff_lt, decide_eq_true_eq] at hp3
         have hd := G.dec hgr (by omega)
         refine ⟨⟨by omega, by omega, hws⟩, _, gv1', ?_⟩
         have hg0 : 0 < g := Nat.lt_of_le_of_lt (Nat.zero_le _) hd
         exact down hg0 (Nat.le_sub_one_of_lt hd) (fun h => (G.brk hgr hg0 h).symm)
       · simp only [gt_iff_lt, decide_eq_false_iff_not] at hp3
         exact ⟨w', i2, g, u, qd, rfl, rfl, hg32, by rw [← hW]; exact hge, by rw [← hW]; exact G.exit hgr hg32 (by omega)⟩
   · -- the guess is taken
     rintro _ V8 l8 ⟨w2, i2, g, u', qd', hc2, rfl, hg32, hge, hgl⟩
     simp only [e01.mk.injEq] at hc2
     obtain ⟨_, rfl, _, _, _, hi2, hu', hq'⟩ := hc2
     obtain rfl : i2 = i := by omega
     obtain rfl := j0e hu'
     obtain rfl := j0e hq'
     refine ⟨⟨w', i2, g, 0, 0, 0, u, qd, u, rfl, rfl, hD, hn2, by omega, hwv, hg32, hge, hgl, by omega, hwu, hlu, by omega, by omega, fun _ _ => rfl, by simp [x04, wval]⟩, ?_⟩
     clear G hge hgl gv1 gv2 hor hq0 h7 hXm hual hua hcmp hlo hX hvN hsh hblb hbltop Esh hv1 hv2 hu2 hu1 hu0 hW
     rintro _ V10 l10 ⟨w2, i9, g9, k, c0, b0, u9, qd9, u00, hc9, rfl, hT⟩
     simp only [x01.mk.injEq] at hc9
     obtain ⟨_, rfl, _, _, _, hi9, hgg⟩ := hc9
     obtain rfl : i2 = i9 := by omega
     obtain rfl : g = g9 := by omega
     have hjn := hT.jn
     have hkn := hT.i_le
     have hlu9 := hT.lu
     have hlq9 := hT.div.lq
     have hme : ((i2 : Int) - 1 + 1).toNat < (((i2 + 1 : Nat) : Int)).toNat := by omega
     simp only [u0q, Int.toNat_natCast]
     refine ⟨fun hp2 => ?_, fun hp2 => ?_⟩
     · simp only [decide_eq_true_eq] at hp2
       have hkn : k < n := by omega
       have K1 : i64.wrap ((k : Int) + i2) = ((i2 + k : Nat) : Int) := by rw [i64w (by omega) (by omega)]; omega
       simp only [K1, Int.toNat_natCast]
       have gk := (hw7.le (View.le_trans l8 l10)).get (i := (k : Nat)) (by omega) (by omega)
       simp only [Int.toNat_natCast, Nat.mul_one] at gk
       refine ⟨⟨by omega, by omega, hws⟩, _, gk, ⟨by omega, by omega⟩, _, C06 (by omega), ⟨by omega, by omega⟩, by rw [A00]; omega, ?_⟩
       obtain ⟨low, br, c, e1, e2, e3, hT'⟩ := hT.step hkn
       rw [e1, e2, e3, f04, i64w (n := (k : Int) + 1) (by omega) (by omega)]
       exact ⟨⟨w', i2, g, k + 1, c, br, _, qd9, u00, rfl, rfl, hT'⟩, by omega⟩
     simp only [decide_eq_false_iff_not] at hp2
     obtain rfl : n = k := by omega
     refine ⟨⟨by omega, by omega⟩, _, C06 (by omega), ⟨by omega, by omega⟩, by rw [A00]; omega, ?_⟩
     obtain ⟨low, br, e1, e2, hl', hb1, hb0⟩ := hT.last
     rw [e1, e2, f04]
     refine ⟨fun hn1 => ?_, fun hn1 => ?_⟩
     · -- one too many: it is added back
       obtain ⟨hB, hg0⟩ := hb1 (by have : (br : Int) = 1 := (by simpa using hn1); omega)
       rw [u64w (n := (g : Int) - 1) (by omega) (by omega), show (g : Int) - 1 = ((g - 1 : Nat) : Int) by omega]
       refine ⟨⟨w', i2, g, 0, 0, _, qd9, u00, _, rfl, rfl, hg0, hB⟩, ?_⟩
       clear hT hB hb1 hb0 hl' e1 e2
       rintro _ V11 l11 ⟨w3, i3, g3, k3, cr, u3, qd3, u03, l3, hc3, rfl, hg3, hB⟩
       simp only [y01.mk.injEq] at hc3
       obtain ⟨_, rfl, _, _, _, hi3, hg3'⟩ := hc3
       obtain rfl : i2 = i3 := by omega
       obtain rfl : g = g3 := by omega
       have hjn := hB.jn
       have hkn := hB.k_le
       have hlu3 := hB.lu
       have hlq3 := hB.div.lq
       simp only [Int.toNat_natCast]
       refine ⟨fun hp4 => ?_, fun hp4 => ?_⟩
       · simp only [decide_eq_true_eq] at hp4
         have hkn : k3 < n := by omega
         have K1 : i64.wrap ((k3 : Int) + i2) = ((i2 + k3 : Nat) : Int) := by rw [i64w (by omega) (by omega)]; omega
         simp only [K1, Int.toNat_natCast]
         have gk := (hw7.le (View.le_trans l8 (View.le_trans l10 l11))).get (i := (k3 : Nat)) (by omega) (by omega)
         simp only [Int.toNat_natCast, Nat.mul_one] at gk
         refine ⟨⟨by omega, by omega⟩, _, C06 (by omega), ⟨by omega, by omega, hws⟩, _, gk, ⟨by omega, by omega⟩, by rw [A00]; omega, ?_⟩
         obtain ⟨low, c, e1, e2, hB'⟩ := hB.step hkn
         rw [e1, e2, f04, i64w (n := (k3 : Int) + 1) (by omega) (by omega)]
         exact ⟨⟨w', i2, g, k3 + 1, c, _, qd3, u03, l3, rfl, rfl, hg3, hB'⟩, by omega⟩
       · simp only [decide_eq_false_iff_not] at hp4
         obtain rfl : n = k3 := by omega
         refine ⟨⟨by omega, by omega⟩, _, C06 (by omega), ⟨by omega, by omega⟩, by rw [A00]; omega, ⟨by omega, by omega⟩, by rw [A00]; omega, ?_⟩
         obtain ⟨low, e1, hD'⟩ := hB.last
         rw [u32w (n := ((g - 1 : Nat) : Int)) (by omega) (by omega), e1, f04, f04]
         exact ⟨⟨w', i2, _, _, rfl, hw7.le (View.le_trans l8 (View.le_trans l10 l11)), rfl, hD'⟩, hme⟩
     · -- the guess is right
       have hD' := hb0 (fun h => by rw [h] at hn1; simp at hn1)
       rw [u32w (n := (g : Int)) (by omega) (by omega), f04]
       exact ⟨⟨by omega, by omega⟩, by rw [A00]; omega, ⟨w', i2, _, _, rfl, hw7.le (View.le_trans l8 l10), rfl, hD'⟩, hme⟩
 · -- the end
   simp only [ge_iff_le, decide_eq_false_iff_not] at hp
   obtain rfl : j = 0 := by omega
   have heq := hD.eq
   have hlt0 := hD.lt
   rw [Nat.zero_add, Nat.pow_zero, Nat.one_mul, Nat.sub_zero] at heq
   obtain ⟨hq1, hr1⟩ := l0n hX hvN hb0 heq hlt0
   have hwq : q01 V12 (Sl.mk (some (Addr.mk b1 0 none)) (m - n) (m - n)) qd := q01.of_block hb1 (by omega) (Nat.le_refl _) hD.wq
   have hwr : q01 V13 (Sl.mk (some (Addr.mk b2 0 none)) m m) u := q01.of_block hb2 (by omega) (Nat.le_refl _) hwu
   refine ⟨⟨by omega, by omega, by omega⟩, (g03 (q01.le l13 hwq) (by omega)).mono fun v V14 l14 ⟨q, hv, hq⟩ => ⟨q, hv, ?_⟩⟩
   have hwr2 : q01 V14 (Sl.mk (some (Addr.mk b2 0 none)) n m) (u.take n) := q01.le l14 (q01.pre hwr (k := n) (c := m) (by omega) (by omega))
   have hl50 : (u.take n).length ≤ 2 ^ 50 := by rw [List.length_take]; omega
   have hz : Int.toNat 0 = 0 := rfl
   have hm0 : ¬ m = 0 := by omega
   have hadd : Option.map (fun q => Addr.add q 0) (some (Addr.mk b2 0 none)) = some (Addr.mk b2 0 none) := by simp [Addr.add]
   simp only [hz, hm0, if_false, Nat.zero_mul, hadd, Nat.sub_zero]
   have htr := g03 hwr2 hl50
   refine htr.mono fun v V15 l15 ⟨r, hv, hr⟩ => ⟨r, hv, ?_⟩
   rw [← H0i] at hr
   have hrw : wn (seg u 0 n) ≤ 2 ^ 44 := by
    have := u04 (d0a hwu 0 n)
    omega
   refine (A0e hr hrw (by omega)).mono fun v V16 l16 ⟨r2, hv, hr2⟩ => ⟨r2, hv, q, r2, rfl, ?_, ?_⟩
   · rw [← hq1, Q05 (by omega)]; exact hq.le (View.le_trans l15 l16)
   · rw [← hr1]; exact hr2

theorem z07 {V : View} {s t : Sl} {a b : Nat} (hs : m00 V s a) (ht : m00 V t b) (ha : wn a ≤ 2 ^ 43) (hb : wn b ≤ 2 ^ 43) :
 a00 prog j0i #[s.v, t.v] V fun v V' => ∃ r : Sl, v = r.v ∧ m00 V' r (Nat.gcd a b) := by
 refine A0g s t V _ (fun _ x V' => ∃ a' b', m00 V' x.t0 a' ∧ m00 V' x.t1 b' ∧ wn a' ≤ 2 ^ 43 ∧ wn b' ≤ 2 ^ 43 ∧ Nat.gcd a' b' = Nat.gcd a b) (fun _ x V' => a0c V' x.t1) ⟨⟨a, b, hs, ht, ha, hb, rfl⟩, ?_⟩
 rintro ⟨x, y⟩ V1 l1 ⟨a', b', hx, hy, wa, wb, hg⟩
 simp only at hx hy ⊢
 have hyl := hy.len
 refine ⟨fun hp => ?_, fun hp => ?_⟩
 · simp only [gt_iff_lt, decide_eq_true_eq] at hp
   have hb0 : b' ≠ 0 := fun e => by rw [← hy.len_zero] at e; omega
   refine (k04 hx hy wa hb0).mono fun v V2 l2 ⟨q, r, hv, hq, hr⟩ => ⟨q, r, hv, ?_⟩
   have hlt : a' % b' < b' := Nat.mod_lt _ (by omega)
   have hwr : wn (a' % b') ≤ wn b' := N08 (Nat.le_of_lt hlt)
   refine ⟨⟨b', a' % b', hy.le l2, hr, wb, by omega, ?_⟩, ?_⟩
   · rw [Nat.gcd_comm, ← Nat.gcd_rec, Nat.gcd_comm]; exact hg
   · rw [l07 hr, l07 hy]; exact hlt
 · simp only [gt_iff_lt, decide_eq_false_iff_not] at hp
   have hb0 : b' = 0 := hy.len_zero.1 (by omega)
   subst hb0
   rw [Nat.gcd_zero_right] at hg
   exact ⟨x, rfl, by rw [← hg]; exact hx⟩
theorem H03 {V : View} {s : Sl} {n : Nat} (neg : Bool) (h : m00 V s n) :
 a00 prog F09 #[.bool neg, s.v] V fun v V' => ∃ r : WhV, v = r.val ∧ D02 V' r (if neg = true then -(n : Int) else n) := by
 have hl := h.len_zero
 refine B0g neg s V _ ⟨fun hn => ⟨_, rfl, ?_, ?_⟩, fun hn => ⟨_, rfl, ?_, ?_⟩⟩
 · rw [if_pos hn]; simp only [gt_iff_lt, decide_eq_decide]; omega
 · rw [if_pos hn]; simpa using h
 · rw [if_neg (by simp [hn])]; symm; simp only [decide_eq_false_iff_not]; omega
 · rw [if_neg (by simp [hn])]; simpa using h
theorem t06 {V : View} {n : Int} (h0 : -9223372036854775808 ≤ n) (h1 : n ≤ 9223372036854775807) :
 a00 prog M0j #[.int .i64 n] V fun v V' => ∃ r : WhV, v = r.val ∧ D02 V' r n := by
 refine A0i n V _ ⟨fun hn => ?_, fun hn => ?_⟩
 · simp only [decide_eq_true_eq] at hn
   have e : u64.wrap (i64.wrap (0 - n)) = -n := by
    by_cases hm : n = -9223372036854775808
    · subst hm; decide
    · rw [i64w (by omega) (by omega), u64w (by omega) (by omega)]; omega
   rw [e]
   refine (i08 (by omega) (by omega)).mono fun v V1 _ ⟨r, hv, hr⟩ => ⟨r, hv, _, rfl, by simp [hn], ?_⟩
   have e2 : n.natAbs = (-n).toNat := by omega
   rw [e2]; exact hr
 · simp only [decide_eq_false_iff_not] at hn
   rw [u64w (by omega) (by omega)]
   refine (i08 (by omega) (by omega)).mono fun v V1 _ ⟨r, hv, hr⟩ => ⟨r, hv, _, rfl, by simp [hn], ?_⟩
   have e2 : n.natAbs = n.toNat := by omega
   rw [e2]; exact hr
theorem l04 {V : View} {x : WhV} {a : Int} (h : D02 V x a) :
 a00 prog c0i #[x.val] V fun v V' => ∃ r : WhV, v = r.val ∧ D02 V' r (-a) := by
 refine C0g x V _ ((H03 (!x.neg) h.2).mono fun v V1 _ ⟨r, hv, hr⟩ => ⟨r, hv, r, rfl, ?_⟩)
 have e : (if (!x.neg) = true then -(a.natAbs : Int) else (a.natAbs : Int)) = -a := by
  rw [h.1]; simp only [Bool.not_eq_true', decide_eq_false_iff_not]; split <;> omega
 rw [e] at hr; exact hr
theorem N05 {V : View} {x y : WhV} {a b : Int} (hx : D02 V x a) (hy : D02 V y b) (ha : wn a.natAbs ≤ 2 ^ 43) (hb : wn b.natAbs ≤ 2 ^ 43) :
 a00 prog d0i #[x.val, y.val] V fun v V' => ∃ r : WhV, v = r.val ∧ D02 V' r (a + b) := by
 have h1 := hx.1
 have h2 := hy.1
 refine F0g x y V _ ⟨fun hs => ?_, fun hs => ?_⟩
 · refine (z0e hx.2 hy.2 (by omega) (by omega)).mono fun v V1 l1 ⟨r, hv, hr⟩ => ⟨r, hv, ?_⟩
   refine (H03 x.neg hr).mono fun v V2 _ ⟨w, hv, hw⟩ => ⟨w, hv, w, rfl, ?_⟩
   have e : (if x.neg = true then -((a.natAbs + b.natAbs : Nat) : Int) else ((a.natAbs + b.natAbs : Nat) : Int)) = a + b := by
    rw [h1, h2] at hs; rw [h1]
    by_cases p : a < 0 <;> by_cases q : b < 0 <;> simp [p, q] at hs ⊢ <;> omega
   rw [e] at hw; exact hw
 · refine (f0a hx.2 hy.2 (by omega)).mono fun v V1 l1 hv => ⟨_, hv, fun hc => ?_, fun hc => ?_⟩
   · have hc : b.natAbs ≤ a.natAbs := by
       rcases Nat.lt_or_ge a.natAbs b.natAbs with h | h
       · rw [if_pos h] at hc; simp at hc
       · exact h
     refine (g0a (hx.2.le l1) (hy.2.le l1) (by omega) hc).mono fun v V2 l2 ⟨r, hv, hr⟩ => ⟨r, hv, ?_⟩
     refine (H03 x.neg hr).mono fun v V3 _ ⟨w, hv, hw⟩ => ⟨w, hv, w, rfl, ?_⟩
     have e : (if x.neg = true then -((a.natAbs - b.natAbs : Nat) : Int) else ((a.natAbs - b.natAbs : Nat) : Int)) = a + b := by
      rw [h1, h2] at hs; rw [h1]
      by_cases p : a < 0 <;> by_cases q : b < 0 <;> simp [p, q] at hs ⊢ <;> omega
     rw [e] at hw; exact hw
   · have hc : a.natAbs ≤ b.natAbs := by
       rcases Nat.lt_or_ge b.natAbs a.natAbs with h | h
       · rw [if_neg (by omega), if_neg (by omega)] at hc; simp at hc
       · exact h
     refine (g0a (hy.2.le l1) (hx.2.le l1) (by omega) hc).mono fun v V2 l2 ⟨r, hv, hr⟩ => ⟨r, hv, ?_⟩
     refine (H03 y.neg hr).mono fun v V3 _ ⟨w, hv, hw⟩ => ⟨w, hv, w, rfl, ?_⟩
     have e : (if y.neg = true then -((b.natAbs - a.natAbs : Nat) : Int) else ((b.natAbs - a.natAbs : Nat) : Int)) = a + b := by
      rw [h1, h2] at hs; rw [h2]
      by_cases p : a < 0 <;> by_cases q : b < 0 <;> simp [p, q] at hs ⊢ <;> omega
     rw [e] at hw; exact hw
theorem B0e {V : View} {x y : WhV} {a b : Int} (hx : D02 V x a) (hy : D02 V y b) (ha : wn a.natAbs ≤ 2 ^ 43) (hb : wn b.natAbs ≤ 2 ^ 43) :
 a00 prog g0i #[x.val, y.val] V fun v V' => ∃ r : WhV, v = r.val ∧ D02 V' r (a - b) := by
 refine D0g x y V _ ((l04 hy).mono fun v V1 l1 ⟨r, hv, hr⟩ => ⟨r, hv, ?_⟩)
 rw [Int.sub_eq_add_neg]
 exact (N05 (hx.le l1) hr ha (by rw [Int.natAbs_neg]; exact hb)).mono fun v V2 _ ⟨w, hv, hw⟩ => ⟨w, hv, w, rfl, hw⟩
theorem g02 {V : View} {x y : WhV} {a b : Int} (hx : D02 V x a) (hy : D02 V y b) (ha : wn a.natAbs ≤ 2 ^ 43) (hb : wn b.natAbs ≤ 2 ^ 43) :
 a00 prog e0i #[x.val, y.val] V fun v V' => ∃ r : WhV, v = r.val ∧ D02 V' r (a * b) := by
 refine E0g x y V _ ((M05 hx.2 hy.2 (by omega) (by omega)).mono fun v V1 l1 ⟨r, hv, hr⟩ => ⟨r, hv, ?_⟩)
 refine (H03 (!(x.neg == y.neg)) hr).mono fun v V2 _ ⟨w, hv, hw⟩ => ⟨w, hv, w, rfl, ?_⟩
 have e : (if (!(x.neg == y.neg)) = true then -((a.natAbs * b.natAbs : Nat) : Int) else ((a.natAbs * b.natAbs : Nat) : Int)) = a * b := by
  rw [m0n _ _ a b rfl rfl, hx.1, hy.1]
  by_cases p : a < 0 <;> by_cases q : b < 0 <;> simp [p, q]
 rw [e] at hw; exact hw
theorem m00.lit {V : View} {b n : Nat} (h : V b = some #[.int .u32 (n : Int)]) (h0 : n ≠ 0) (h1 : n < 4294967296) : m00 V (Sl.mk (some (Addr.mk b 0 none)) 1 1) n := by
 have e : dig n = [n] := by
  have h2 : n / 4294967296 = 0 := Nat.div_eq_of_lt h1
  rw [W04 h0, h2, M03, Nat.mod_eq_of_lt h1]
 unfold m00
 rw [e]
 exact q01.of_block (by rw [h]; rfl) rfl (Nat.le_refl _) (by intro d hd; simp at hd; omega)
theorem w0m : dig 1 = [1] := by rw [W04 (by omega)]; simp [M03]
theorem D02.ofNat {V : View} {s : Sl} {n : Nat} (h : m00 V s n) : D02 V (WhV.mk false s) (n : Int) := ⟨by simp, h⟩
theorem Q04 {V : View} {x y : WhV} {s : Sl} {z : Cq} {a b : Int} {d : Nat} (hx : D02 V x a) (hy : D02 V y b) (hs : m00 V s d) (hz : Rep z a b d) (ha : wn a.natAbs ≤ 2 ^ 43) (hb : wn b.natAbs ≤ 2 ^ 43) (hd : wn d ≤ 2 ^ 43) :
 a00 prog L0l #[x.val, y.val, s.v] V fun v V' => ∃ r : NumV, v = r.val ∧ QAt V' r z := by
 obtain ⟨e1, e2, e3⟩ := hz.eqs
 have hp := K0e a b hz.pos
 have d1 := Q0a a b d
 have d2 := Q0c a b d
 have d3 := E0f a b d
 refine f0k x y s V _ ((z07 hx.2 hy.2 ha hb).mono fun v V1 l1 ⟨r1, hv, h1⟩ => ⟨r1, hv, ?_⟩)
 have hw1 : wn (Nat.gcd a.natAbs b.natAbs) ≤ 2 ^ 43 := by
  rcases Nat.eq_zero_or_pos a.natAbs with h | h
  · rw [h, Nat.gcd_zero_left]; exact hb
  · exact Nat.le_trans (N08 (Nat.le_of_dvd h (Nat.gcd_dvd_left _ _))) ha
 refine (z07 h1 (hs.le l1) hw1 hd).mono fun v V2 l2 ⟨r2, hv, h2⟩ => ⟨r2, hv, ?_⟩
 have hg : Nat.gcd (Nat.gcd a.natAbs b.natAbs) d = gcd3 a b d := rfl
 rw [hg] at h2
 have l02 := View.le_trans l1 l2
 have h2l := h2.len
 have many : gcd3 a b d ≠ 1 → a00 prog G07 #[x.mag.v, r2.v] V2 fun v V8 => ∃ (r11 : Sl) (r12 : Sl), v = .tuple #[r11.v, r12.v] ∧
  a00 prog G07 #[y.mag.v, r2.v] V8 fun v V9 => ∃ (r13 : Sl) (r14 : Sl), v = .tuple #[r13.v, r14.v] ∧
  a00 prog G07 #[s.v, r2.v] V9 fun v V10 => ∃ (r15 : Sl) (r16 : Sl), v = .tuple #[r15.v, r16.v] ∧
  a00 prog F09 #[.bool x.neg, r11.v] V10 fun v V11 => ∃ r17 : WhV, v = r17.val ∧
  a00 prog F09 #[.bool y.neg, r13.v] V11 fun v V12 => ∃ r18 : WhV, v = r18.val ∧ ∃ r : NumV, (NumV.mk r17 r18 r15).val = r.val ∧ QAt V12 r z := by
  intro _
  refine (k04 (hx.2.le l02) h2 ha (by omega)).mono fun v V4 l4 ⟨q1, m1, hv, hq1, _⟩ => ⟨q1, m1, hv, ?_⟩
  refine (k04 (hy.2.le (View.le_trans l02 l4)) (h2.le l4) hb (by omega)).mono fun v V5 l5 ⟨q2, m2, hv, hq2, _⟩ => ⟨q2, m2, hv, ?_⟩
  have l45 := View.le_trans l4 l5
  refine (k04 (hs.le (View.le_trans l02 l45)) (h2.le l45) hd (by omega)).mono fun v V6 l6 ⟨q3, m3, hv, hq3, _⟩ => ⟨q3, m3, hv, ?_⟩
  refine (H03 x.neg (hq1.le (View.le_trans l5 l6))).mono fun v V7 l7 ⟨w1, hv, hw1⟩ => ⟨w1, hv, ?_⟩
  refine (H03 y.neg (hq2.le (View.le_trans l6 l7))).mono fun v V8 l8 ⟨w2, hv, hw2⟩ => ⟨w2, hv, _, rfl, ?_, ?_, ?_⟩
  · rw [e1]
    have e : (if x.neg = true then -((a.natAbs / gcd3 a b d : Nat) : Int) else ((a.natAbs / gcd3 a b d : Nat) : Int)) = a / (gcd3 a b d : Nat) := by
     have k1 := p05 d1
     have k2 := f08 d1 hp
     rw [← k1, hx.1]
     have k3 : (a / (gcd3 a b d : Nat) < 0) ↔ a < 0 := by simpa using k2
     simp only [decide_eq_true_eq]
     split <;> omega
    rw [e] at hw1; exact hw1.le l8
  · rw [e2]
    have e : (if y.neg = true then -((b.natAbs / gcd3 a b d : Nat) : Int) else ((b.natAbs / gcd3 a b d : Nat) : Int)) = b / (gcd3 a b d : Nat) := by
     have k1 := p05 d2
     have k2 := f08 d2 hp
     rw [← k1, hy.1]
     have k3 : (b / (gcd3 a b d : Nat) < 0) ↔ b < 0 := by simpa using k2
     simp only [decide_eq_true_eq]
     split <;> omega
    rw [e] at hw2; exact hw2
  · rw [e3]; exact hq3.le (View.le_trans l7 l8)
 refine ⟨fun hn => ?_, fun hn => ⟨fun h => absurd h (by simp), fun _ => ?_⟩⟩
 · have hn : r2.len = 1 := by have : (r2.len : Int) = 1 := (by simpa using hn); omega
   refine ⟨⟨by omega, by omega, h2.isSome (by omega)⟩, _, h2.get (by omega) (by omega), fun hw => ?_, fun hw => ?_⟩
   · have hw : (dig (gcd3 a b d)).getD 0 0 = 1 := by have : (((dig (gcd3 a b d)).getD 0 0 : Nat) : Int) = 1 := of_decide_eq_true (by rw [← hw]; rfl); omega
     have hg1 : gcd3 a b d = 1 := by
      rw [hn] at h2l
      have h3 := d01 (gcd3 a b d)
      obtain ⟨w, hw'⟩ : ∃ w, dig (gcd3 a b d) = [w] := List.length_eq_one_iff.1 h2l.symm
      rw [hw'] at hw h3
      simp [wval] at hw h3
      omega
     rw [hg1] at e1 e2 e3
     simp only [Int.natCast_one, Int.ediv_one] at e1 e2
     rw [Nat.div_one] at e3
     exact ⟨_, rfl, by rw [e1]; exact hx.le l02, by rw [e2]; exact hy.le l02, by rw [e3]; exact hs.le l02⟩
   · refine many fun h => ?_
     rw [h, w0m] at hw; simp at hw
 · refine many fun h => ?_
   rw [h, w0m] at h2l
   rw [h2l] at hn; simp at hn
theorem l05 {V : View} {n : Int} (h0 : -9223372036854775808 ≤ n) (h1 : n ≤ 9223372036854775807) :
 a00 prog H0j #[.int .i64 n] V fun v V' => ∃ r : NumV, v = r.val ∧ QAt V' r ⟨(n : Rat), 0⟩ := by
 obtain ⟨e1, e2, e3⟩ := k0b n
 refine B0i n V _ ((t06 h0 h1).mono fun v V1 _ ⟨r, hv, hr⟩ => ⟨r, hv, fun b V2 l2 _ hb => ⟨_, rfl, by rw [e1]; exact hr.le l2, by rw [e2]; exact D02.zero _, by rw [e3]; exact m00.lit hb (by omega) (by omega)⟩⟩)
theorem l0d {V : View} {p q d : Int} (p0 : -9223372036854775808 ≤ p) (p1 : p ≤ 9223372036854775807) (q0 : -9223372036854775808 ≤ q) (q1 : q ≤ 9223372036854775807) (d0 : -9223372036854775808 ≤ d) (d1 : d ≤ 9223372036854775807) (hd : d ≠ 0) :
 a00 prog Y0n #[.int .i64 p, .int .i64 q, .int .i64 d] V fun v V' => ∃ r : NumV, v = .tuple #[r.val, .int .i64 0] ∧ QAt V' r ⟨(p : Rat) / (d : Rat), (q : Rat) / (d : Rat)⟩ := by
 refine g0m p q d V _ ⟨fun h => ?_, fun _ => ?_⟩
 · exact absurd (by simpa using h) hd
 refine (t06 d0 d1).mono fun v V1 l1 ⟨c, hv, hc⟩ => ⟨c, hv, ?_⟩
 refine (t06 p0 p1).mono fun v V2 l2 ⟨a, hv, ha⟩ => ⟨a, hv, ?_⟩
 refine (t06 q0 q1).mono fun v V3 l3 ⟨b, hv, hb⟩ => ⟨b, hv, fun hn => ?_, fun hn => ?_⟩
 · have hneg : d < 0 := by have := hc.1; rw [hn] at this; simpa using this.symm
   refine (l04 (ha.le l3)).mono fun v V4 l4 ⟨a', hv, ha'⟩ => ⟨a', hv, ?_⟩
   refine (l04 (hb.le l4)).mono fun v V5 l5 ⟨b', hv, hb'⟩ => ⟨b', hv, ?_⟩
   refine (Q04 (ha'.le l5) hb' (hc.2.le (View.le_trans l2 (View.le_trans l3 (View.le_trans l4 l5)))) ?_ (wn64 (by omega)) (wn64 (by omega)) (wn64 (by omega))).mono fun v V6 l6 ⟨r, hv, hr⟩ => ⟨r, hv, r, rfl, hr⟩
   have e : ((d.natAbs : Nat) : Rat) = -(d : Rat) := by
    have : (d.natAbs : Int) = -d := by omega
    rw [← Rat.intCast_natCast, this]; push_cast; rfl
   refine ⟨by omega, ?_, ?_⟩ <;> (simp only [e]; push_cast; rw [Rat.div_def, Rat.div_def]; grind)
 · have hpos : ¬ d < 0 := by have := hc.1; rw [hn] at this; simpa using this.symm
   refine (Q04 (ha.le l3) hb (hc.2.le (View.le_trans l2 l3)) ?_ (wn64 (by omega)) (wn64 (by omega)) (wn64 (by omega))).mono fun v V6 l6 ⟨r, hv, hr⟩ => ⟨r, hv, r, rfl, hr⟩
   have e : ((d.natAbs : Nat) : Rat) = (d : Rat) := by
    have : (d.natAbs : Int) = d := by omega
    rw [← Rat.intCast_natCast, this]
   refine ⟨by omega, ?_, ?_⟩ <;> simp only [e]
theorem s05 {V : View} {x y : NumV} {z w : Cq} (hx : QAt V x z) (hy : QAt V y w) (hz : z.sz ≤ 2 ^ 40) (hw : w.sz ≤ 2 ^ 40) :
 a00 prog Z0n #[x.val, y.val] V fun v V' => ∃ r : NumV, v = r.val ∧ QAt V' r (z + w) := by
 have zA := Cq.wA hz; have zB := Cq.wB hz; have zD := Cq.wD hz
 have wA := Cq.wA hw; have wB := Cq.wB hw; have wD := Cq.wD hw
 have zD' : wn (z.D : Int).natAbs ≤ 2 ^ 35 := zD
 have wD' : wn (w.D : Int).natAbs ≤ 2 ^ 35 := wD
 have s1 := x03 zA wD'; have s2 := x03 wA zD'; have s3 := x03 zB wD'; have s4 := x03 wB zD'
 have s5 := U09 s1 s2; have s6 := U09 s3 s4
 have s7 := e08 z.D w.D
 refine i0m x y V _ ((g02 hx.re (D02.ofNat hy.under) (by omega) (by omega)).mono fun v V1 l1 ⟨r1, hv, h1⟩ => ⟨r1, hv, ?_⟩)
 replace hx := hx.le l1; replace hy := hy.le l1
 refine (g02 hy.re (D02.ofNat hx.under) (by omega) (by omega)).mono fun v V2 l2 ⟨r2, hv, h2⟩ => ⟨r2, hv, ?_⟩
 replace hx := hx.le l2; replace hy := hy.le l2; replace h1 := h1.le l2
 refine (N05 h1 h2 (by omega) (by omega)).mono fun v V3 l3 ⟨r3, hv, h3⟩ => ⟨r3, hv, ?_⟩
 replace hx := hx.le l3; replace hy := hy.le l3
 refine (g02 hx.im (D02.ofNat hy.under) (by omega) (by omega)).mono fun v V4 l4 ⟨r4, hv, h4⟩ => ⟨r4, hv, ?_⟩
 replace hx := hx.le l4; replace hy := hy.le l4; replace h3 := h3.le l4
 refine (g02 hy.im (D02.ofNat hx.under) (by omega) (by omega)).mono fun v V5 l5 ⟨r5, hv, h5⟩ => ⟨r5, hv, ?_⟩
 replace hx := hx.le l5; replace hy := hy.le l5; replace h3 := h3.le l5; replace h4 := h4.le l5
 refine (N05 h4 h5 (by omega) (by omega)).mono fun v V6 l6 ⟨r6, hv, h6⟩ => ⟨r6, hv, ?_⟩
 replace hx := hx.le l6; replace hy := hy.le l6; replace h3 := h3.le l6
 refine (M05 hx.under hy.under (by omega) (by omega)).mono fun v V7 l7 ⟨r7, hv, h7⟩ => ⟨r7, hv, ?_⟩
 exact (Q04 (h3.le l7) (h6.le l7) h7 (z.canon.rep.add w.canon.rep) (by omega) (by omega) (by omega)).mono fun v V10 _ ⟨r, hv, hr⟩ => ⟨r, hv, r, rfl, hr⟩
theorem m0d {V : View} {x : NumV} {z : Cq} (hx : QAt V x z) : a00 prog e0o #[x.val] V fun v V' => ∃ r : NumV, v = r.val ∧ QAt V' r (-z) := by
 obtain ⟨e1, e2, e3⟩ := z.neg_eqs
 refine k0m x V _ ((l04 hx.re).mono fun v V1 l1 ⟨r1, hv, h1⟩ => ⟨r1, hv, ?_⟩)
 exact (l04 (hx.im.le l1)).mono fun v V2 l2 ⟨r2, hv, h2⟩ => ⟨r2, hv, _, rfl, by rw [e1]; exact h1.le l2, by rw [e2]; exact h2, by rw [e3]; exact hx.under.le (View.le_trans l1 l2)⟩
theorem e0c {V : View} {x : NumV} {z : Cq} (hx : QAt V x z) : a00 prog O0l #[x.val] V fun v V' => ∃ r : NumV, v = r.val ∧ QAt V' r z.conj := by
 obtain ⟨e1, e2, e3⟩ := z.conj_eqs
 exact g0k x V _ ((l04 hx.im).mono fun v V1 l1 ⟨r1, hv, h1⟩ => ⟨r1, hv, _, rfl, by rw [e1]; exact hx.re.le l1, by rw [e2]; exact h1, by rw [e3]; exact hx.under.le l1⟩)
theorem Z09 {V : View} {x y : NumV} {z w : Cq} (hx : QAt V x z) (hy : QAt V y w) (hz : z.sz ≤ 2 ^ 40) (hw : w.sz ≤ 2 ^ 40) :
 a00 prog f0o #[x.val, y.val] V fun v V' => ∃ r : NumV, v = r.val ∧ QAt V' r (z - w) := by
 refine l0m x y V _ ((m0d hy).mono fun v V1 l1 ⟨r1, hv, h1⟩ => ⟨r1, hv, ?_⟩)
 rw [k0g]
 exact (s05 (hx.le l1) h1 hz (by rw [y09]; exact hw)).mono fun v V2 _ ⟨r, hv, hr⟩ => ⟨r, hv, r, rfl, hr⟩
theorem Y01 {V : View} {x y : NumV} {z w : Cq} (hx : QAt V x z) (hy : QAt V y w) (hz : z.sz ≤ 2 ^ 40) (hw : w.sz ≤ 2 ^ 40) :
 a00 prog a0o #[x.val, y.val] V fun v V' => ∃ r : NumV, v = r.val ∧ QAt V' r (z * w) := by
 have zA := Cq.wA hz; have zB := Cq.wB hz; have zD := Cq.wD hz
 have wA := Cq.wA hw; have wB := Cq.wB hw; have wD := Cq.wD hw
 have s1 := x03 zA wA; have s2 := x03 zB wB; have s2' := w0q s2; have s3 := x03 zA wB; have s4 := x03 zB wA
 have s5 := U09 s1 s2'; have s6 := U09 s3 s4
 rw [← Int.sub_eq_add_neg] at s5
 have s7 := e08 z.D w.D
 refine j0m x y V _ ((g02 hx.re hy.re (by omega) (by omega)).mono fun v V1 l1 ⟨r1, hv, h1⟩ => ⟨r1, hv, ?_⟩)
 replace hx := hx.le l1; replace hy := hy.le l1
 refine (g02 hx.im hy.im (by omega) (by omega)).mono fun v V2 l2 ⟨r2, hv, h2⟩ => ⟨r2, hv, ?_⟩
 replace hx := hx.le l2; replace hy := hy.le l2; replace h1 := h1.le l2
 refine (B0e h1 h2 (by omega) (by omega)).mono fun v V4 l4 ⟨r4, hv, h4⟩ => ⟨r4, hv, ?_⟩
 replace hx := hx.le l4; replace hy := hy.le l4
 refine (g02 hx.re hy.im (by omega) (by omega)).mono fun v V5 l5 ⟨r5, hv, h5⟩ => ⟨r5, hv, ?_⟩
 replace hx := hx.le l5; replace hy := hy.le l5; replace h4 := h4.le l5
 refine (g02 hx.im hy.re (by omega) (by omega)).mono fun v V6 l6 ⟨r6, hv, h6⟩ => ⟨r6, hv, ?_⟩
 replace hx := hx.le l6; replace hy := hy.le l6; replace h4 := h4.le l6; replace h5 := h5.le l6
 refine (N05 h5 h6 (by omega) (by omega)).mono fun v V7 l7 ⟨r7, hv, h7⟩ => ⟨r7, hv, ?_⟩
 replace hx := hx.le l7; replace hy := hy.le l7; replace h4 := h4.le l7
 refine (M05 hx.under hy.under (by omega) (by omega)).mono fun v V10 l10 ⟨r10, hv, h10⟩ => ⟨r10, hv, ?_⟩
 exact (Q04 (h4.le l10) (h7.le l10) h10 (z.canon.rep.mul w.canon.rep) (by omega) (by omega) (by omega)).mono fun v V11 _ ⟨r, hv, hr⟩ => ⟨r, hv, r, rfl, hr⟩
theorem i0b {V : View} {x : WhV} {a : Int} (h : D02 V x a) : x.mag.len = 0 ↔ a = 0 := by
 have := h.2.len_zero
 rw [this]; omega
theorem Q0g {V : View} {x : NumV} {z : Cq} (hx : QAt V x z) : a00 prog K0l #[x.val] V fun v _ => v = .int .i64 (cmpR z.re 0) := by
 have h0 := i0b hx.re
 have h1 := hx.re.1
 have hD := z.D_pos
 have hc : cmpR z.re 0 = cmpZ z.A 0 := by
  have := c0q (A := z.A) (A' := 0) (D := z.D) (D' := 1) hD (by omega)
  rw [← z.canon.rep.re] at this
  rw [show ((0 : Int) : Rat) / ((1 : Nat) : Rat) = 0 by rw [Rat.div_def]; simp] at this
  rw [← this]; simp
 refine i0k x V _ ⟨fun h => ?_, fun h => ⟨fun hp => ?_, fun hp => ?_⟩⟩
 · have : z.A < 0 := by rw [h] at h1; simpa using h1.symm
   rw [hc, Z0p this]
 · have hn : ¬ z.A < 0 := by rw [h] at h1; simpa using h1.symm
   have : x.re.mag.len ≠ 0 := by intro e; rw [e] at hp; simp at hp
   have : z.A ≠ 0 := fun e => this (h0.2 e)
   rw [hc, b0q (by omega)]
 · have : x.re.mag.len = 0 := by have : ¬ (0 : Int) < x.re.mag.len := (by simpa using hp); omega
   rw [hc, a0q (h0.1 this)]

theorem X0k {V : View} {x : NumV} {z : Cq} (h : QAt V x z) (hz : z.sz ≤ 2 ^ 40) : a00 prog P0p #[x.val] V fun v V' => ∃ r : NumV, v = r.val ∧ QAt V' r ⟨z.im, 0⟩ := by
 have zA := Cq.wA hz; have zB := Cq.wB hz; have zD := Cq.wD hz
 have hr := z.canon.rep
 exact H0o x V _ ((Q04 h.im (D02.zero V) h.under (z := ⟨z.im, 0⟩) ⟨hr.pos, hr.im, by simp [Rat.div_def]⟩ (by omega) (by rw [Int.natAbs_zero, d08]; omega) (by omega)).mono fun v V' _ ⟨r, hv, hq⟩ => ⟨r, hv, r, rfl, hq⟩)

theorem j0b {r : RatV} (h : ratI r) : (ratQ r).sz ≤ 64 := by
 obtain ⟨⟨a, b⟩, ⟨c, d⟩, e, f⟩ := h
 have key : Rep (ratQ r) (if r.den < 0 then -r.re else r.re) (if r.den < 0 then -r.im else r.im) (if r.den = 0 then 1 else r.den.natAbs) := by
  unfold ratQ
  split
  · rename_i h0
    have : ¬ r.den < 0 := by omega
    rw [if_neg this, if_neg this]
    refine ⟨by omega, ?_, ?_⟩ <;> simp only [] <;> rw [Rat.div_def] <;> simp <;> grind
  · by_cases hn : r.den < 0
    · rw [if_pos hn, if_pos hn]
      have hd : (r.den : Rat) ≠ 0 := by
       intro e0
       have := Rat.intCast_inj.1 (e0.trans Rat.intCast_zero.symm)
       omega
      have e : ((r.den.natAbs : Nat) : Rat) = -(r.den : Rat) := by
       have e1 : ((r.den.natAbs : Nat) : Rat) = (((r.den.natAbs : Nat) : Int) : Rat) := rfl
       have e2 : ((r.den.natAbs : Nat) : Int) = -r.den := by omega
       rw [e1, e2, Rat.intCast_neg]
      refine ⟨by omega, ?_, ?_⟩ <;> simp only [e, Rat.intCast_neg] <;> grind
    · rw [if_neg hn, if_neg hn]
      have e : ((r.den.natAbs : Nat) : Rat) = (r.den : Rat) := by
       have e2 : ((r.den.natAbs : Nat) : Int) = r.den := by omega
       conv => rhs; rw [← e2]
       rfl
      exact ⟨by omega, by simp only [e], by simp only [e]⟩
 refine key.sz ?_ ?_ ?_
 · exact S05 (by split <;> omega)
 · exact S05 (by split <;> omega)
 · exact S05 (by split <;> omega)

theorem u06 {V : View} {r : RatV} (h : ratI r) : a00 prog C0p #[r.val] V fun v V' => ∃ x : NumV, v = x.val ∧ QAt V' x (ratQ r) := by
 obtain ⟨⟨a1, a2⟩, ⟨b1, b2⟩, ⟨c1, c2⟩⟩ := h
 refine I0o r V _ ⟨fun hd => ?_, fun hd => ?_⟩
 · have hd : r.den = 0 := by simpa using hd
   refine (l0d a1 a2 b1 b2 (by omega) (by omega) (by omega)).mono fun v V1 _ ⟨x, hv, hx⟩ => ⟨x, 0, hv, x, rfl, ?_⟩
   have e : ratQ r = ⟨((r.re : Int) : Rat) / ((1 : Int) : Rat), ((r.im : Int) : Rat) / ((1 : Int) : Rat)⟩ := by
    unfold ratQ; rw [if_pos hd]
    exact Cq.ext' (by simp only []; grind) (by simp only []; grind)
   rw [e]; exact hx
 · have hd : r.den ≠ 0 := by simpa using hd
   refine (l0d a1 a2 b1 b2 c1 c2 hd).mono fun v V1 _ ⟨x, hv, hx⟩ => ⟨x, 0, hv, x, rfl, ?_⟩
   have e : ratQ r = ⟨((r.re : Int) : Rat) / ((r.den : Int) : Rat), ((r.im : Int) : Rat) / ((r.den : Int) : Rat)⟩ := by
    unfold ratQ; rw [if_neg hd]
   rw [e]; exact hx

theorem S0g {V : View} {x : NumV} {z : Cq} (h : QAt V x z) : a00 prog H0l #[x.val] V fun v _ => v = .bool (decide (z = Cq.zero)) := by
 have a := h.re.2.len_zero; have b := h.im.2.len_zero
 have zA := x0q (z := z); have zB := B_zero (z := z)
 have key : z = Cq.zero ↔ x.re.mag.len = 0 ∧ x.im.mag.len = 0 := by
  rw [a, b, Int.natAbs_eq_zero, Int.natAbs_eq_zero, zA, zB]
  exact ⟨fun e => by rw [e]; exact ⟨rfl, rfl⟩, fun ⟨h1, h2⟩ => Cq.ext' h1 h2⟩
 refine d0k x V _ ⟨fun hc => ?_, fun hc => ?_⟩
 · have hc : x.re.mag.len = 0 := by have : (x.re.mag.len : Int) = 0 := by simpa using hc
                                    omega
   congr 1
   by_cases d : x.im.mag.len = 0
   · rw [decide_eq_true (key.2 ⟨hc, d⟩), d]; rfl
   · rw [decide_eq_false (fun e => d (key.1 e).2)]; simpa using d
 · have hc : ¬ x.re.mag.len = 0 := by have : ¬ (x.re.mag.len : Int) = 0 := by simpa using hc
                                      omega
   rw [decide_eq_false (fun e => hc (key.1 e).1)]
theorem p0n (a : Int) (n : Nat) : ((a * (n : Int) : Int) : Rat) = (a : Rat) * (n : Rat) := by rw [Rat.intCast_mul]; rfl
theorem T08 {V : View} {x y : NumV} {z w : Cq} (hx : QAt V x z) (hy : QAt V y w) (hz : z.sz ≤ 2 ^ 36) (hw : w.sz ≤ 2 ^ 36) :
 a00 prog d0o #[x.val, y.val] V fun v V' => ∃ (r : NumV) (e : Int), v = .tuple #[r.val, .int .i64 e] ∧ QAt V' r (z.div w) ∧ (w ≠ Cq.zero → e = 0) ∧ (w = Cq.zero → e = 3) := by
 have cz := D0b w
 refine f0m x y V _ ((S0g hy).mono fun v V1 l1 hv => ⟨_, hv, fun hc => ?_, fun hc => ?_⟩)
 · have hc : w = Cq.zero := by simpa using hc
   refine (l05 (by omega) (by omega)).mono fun v V2 _ ⟨r, hv, hr⟩ => ⟨r, hv, _, _, rfl, ?_, fun h => absurd hc h, fun _ => rfl⟩
   have e : z.div w = ⟨((0 : Int) : Rat), 0⟩ := by
    rw [hc, Rat.intCast_zero]
    refine Cq.ext' ?_ ?_
    · show (z.re * 0 + z.im * 0) / (0 * 0 + 0 * 0) = 0
      have : z.re * 0 + z.im * 0 = (0 : Rat) := by grind
      rw [this, Rat.div_def]; exact Rat.zero_mul _
    · show (z.im * 0 - z.re * 0) / (0 * 0 + 0 * 0) = 0
      have : z.im * 0 - z.re * 0 = (0 : Rat) := by grind
      rw [this, Rat.div_def]; exact Rat.zero_mul _
   rw [e]; exact hr
 have hc : w ≠ Cq.zero := by simpa using hc
 replace hx := hx.le l1; replace hy := hy.le l1
 have norm : a00 prog N0l #[y.val] V1 fun v V' => ∃ r : NumV, v = r.val ∧ QAt V' r (w * w.conj) :=
  e0k y V1 _ ((e0c hy).mono fun v V2 l2 ⟨r, hv, hr⟩ => ⟨r, hv, (Y01 (hy.le l2) hr (by omega) (by omega)).mono fun v V3 _ ⟨q, hv, hq⟩ => ⟨q, hv, q, rfl, hq⟩⟩)
 refine norm.mono fun v V3 l3 ⟨n, hv, hn⟩ => ⟨n, hv, (e0c (hy.le l3)).mono fun v V4 l4 ⟨c, hv, hcj⟩ => ⟨c, hv, ?_⟩⟩
 refine (Y01 (hx.le (View.le_trans l3 l4)) hcj (by omega) (by omega)).mono fun v V5 l5 ⟨t, hv, ht⟩ => ⟨t, hv, ?_⟩
 replace hn := hn.le (View.le_trans l4 l5)
 have ns := W00 w w.conj
 have ts := W00 z w.conj
 have n40 : (w * w.conj).sz ≤ 2 ^ 40 := by omega
 have t40 : (z * w.conj).sz ≤ 2 ^ 40 := by omega
 have nA := Cq.wA n40; have nD := Cq.wD n40; have tA := Cq.wA t40; have tB := Cq.wB t40; have tD := Cq.wD t40
 have hD := (w * w.conj).D_pos
 refine (g02 ht.re (D02.ofNat hn.under) (by omega) (by rw [Int.natAbs_natCast]; omega)).mono fun v V6 l6 ⟨r6, hv, h6⟩ => ⟨r6, hv, ?_⟩
 refine (g02 (ht.im.le l6) (D02.ofNat (hn.under.le l6)) (by omega) (by rw [Int.natAbs_natCast]; omega)).mono fun v V7 l7 ⟨r7, hv, h7⟩ => ⟨r7, hv, ?_⟩
 have L := View.le_trans l6 l7
 refine (M05 (ht.under.le L) (hn.re.2.le L) (by omega) (by omega)).mono fun v V8 l8 ⟨r8, hv, h8⟩ => ⟨r8, hv, ?_⟩
 have p1 := e08 (z * w.conj).D (w * w.conj).A.natAbs
 have q1 := x03 tA (b := ((w * w.conj).D : Int)) (by rw [Int.natAbs_natCast]; exact nD)
 have q2 := x03 tB (b := ((w * w.conj).D : Int)) (by rw [Int.natAbs_natCast]; exact nD)
 -- the norm is a number above 0
 have nre : (w * w.conj).re = w.norm := by show w.re * w.re - w.im * -w.im = w.re * w.re + w.im * w.im; grind
 have npos : 0 < w.norm := by
  have h1 : 0 ≤ w.re * w.re := X0a _
  have h2 : 0 ≤ w.im * w.im := X0a _
  refine Rat.not_le.1 fun g => hc ?_
  have g : w.re * w.re + w.im * w.im ≤ 0 := g
  have e1 : w.re * w.re = 0 := by grind
  have e2 : w.im * w.im = 0 := by grind
  exact Cq.ext' (by rcases Rat.mul_eq_zero.1 e1 with h | h <;> exact h) (by rcases Rat.mul_eq_zero.1 e2 with h | h <;> exact h)
 have nrep := (w * w.conj).canon.rep
 have hA : 0 < (w * w.conj).A := by
  refine Int.not_le.1 fun g => ?_
  have e := nrep.re
  rw [nre] at e
  have : ((w * w.conj).A : Rat) / ((w * w.conj).D : Rat) ≤ 0 := by
   rw [Rat.div_def]
   have dp : (0 : Rat) < ((w * w.conj).D : Rat) := by have : 0 < (w * w.conj).D := by omega
                                                      exact_mod_cast this
   have ip : (0 : Rat) ≤ ((w * w.conj).D : Rat)⁻¹ := Rat.le_of_lt (Rat.inv_pos.2 dp)
   have gq : ((w * w.conj).A : Rat) ≤ 0 := by exact_mod_cast g
   have := Rat.mul_le_mul_of_nonneg_right gq ip
   rw [Rat.zero_mul] at this; exact this
  grind
 have R : Rep (z.div w) ((z * w.conj).A * ((w * w.conj).D : Int)) ((z * w.conj).B * ((w * w.conj).D : Int)) ((z * w.conj).D * (w * w.conj).A.natAbs) := by
  have trep := (z * w.conj).canon.rep
  have tre : (z * w.conj).re = z.re * w.re + z.im * w.im := by show z.re * w.re - z.im * -w.im = _; grind
  have tim : (z * w.conj).im = z.im * w.re - z.re * w.im := by show z.re * -w.im + z.im * w.re = _; grind
  have e1 := trep.re; have e2 := trep.im; have e3 := nrep.re
  rw [tre] at e1; rw [tim] at e2; rw [nre] at e3
  have dn : ((z * w.conj).D : Rat) ≠ 0 := W03 (z * w.conj).D_pos
  have dm : ((w * w.conj).D : Rat) ≠ 0 := W03 hD
  have an : (((w * w.conj).A.natAbs : Nat) : Rat) = ((w * w.conj).A : Rat) := by
   have : (((w * w.conj).A.natAbs : Nat) : Int) = (w * w.conj).A := by omega
   exact congrArg (fun x : Int => (x : Rat)) this
  have am : ((w * w.conj).A : Rat) ≠ 0 := by
   intro g
   have : (w * w.conj).A = 0 := by exact_mod_cast g
   omega
  refine ⟨?_, ?_, ?_⟩
  · exact Nat.pos_iff_ne_zero.1 (Nat.mul_pos (by have := (z * w.conj).D_pos; omega) (by omega))
  · show (z.re * w.re + z.im * w.im) / w.norm = _
    rw [e1, e3, p0n (z * w.conj).A, Rat.natCast_mul, an]; grind
  · show (z.im * w.re - z.re * w.im) / w.norm = _
    rw [e2, e3, p0n (z * w.conj).B, Rat.natCast_mul, an]; grind
 refine (Q04 (h6.le (View.le_trans l7 l8)) (h7.le l8) h8 R (by omega) (by omega) (by omega)).mono fun v V9 _ ⟨r, hv, hr⟩ => ⟨r, hv, _, _, rfl, hr, fun _ => rfl, fun h => absurd h hc⟩

theorem Y0k {q : Rat} : cmpR q 0 = 0 ↔ q = 0 := by
 unfold cmpR
 by_cases c : q < 0
 · rw [if_pos c]; exact ⟨fun h => absurd h (by decide), fun h => by grind⟩
 · rw [if_neg c]
   by_cases d : q = 0
   · rw [if_pos d]; exact ⟨fun _ => d, fun _ => rfl⟩
   · rw [if_neg d]; exact ⟨fun h => absurd h (by decide), fun h => absurd h d⟩
theorem p07 {V : View} {x : NumV} {z : Cq} (h : QAt V x z) (hz : z.sz ≤ 2 ^ 40) : a00 prog G0b #[x.val] V fun v _ => v = .bool (decide (z.im = 0)) := by
 have side : a00 prog J0l #[x.val] V fun v _ => v = .int .i64 (cmpR z.im 0) :=
  k0k x V _ ((X0k h hz).mono fun v V1 _ ⟨r, hv, hr⟩ => ⟨r, hv, (Q0g hr).mono fun v V2 _ hv => ⟨_, hv, rfl⟩⟩)
 refine L0a x V _ (side.mono fun v V1 _ hv => ⟨_, hv, ?_⟩)
 congr 1
 by_cases c : z.im = 0
 · rw [decide_eq_true c, Y0k.2 c]; rfl
 · rw [decide_eq_false c]
   have : cmpR z.im 0 ≠ 0 := fun h => c (Y0k.1 h)
   simpa using this
theorem O07 {V : View} {s : y00} {p : P3} {S : Nat} (h : n08 V s p) (sp : p.szle S) (hS : S ≤ 2 ^ 40) : a00 prog H0a #[s.val] V fun v _ => v = .bool p.real := by
 obtain ⟨s1, s2, s3⟩ := sp
 unfold P3.real
 refine q0a s V _ ((p07 h.x (by omega)).mono fun v V1 l1 hv => ⟨_, hv, fun h1 => ?_, fun h1 => by rw [h1]; rfl⟩)
 rw [h1]
 refine (p07 (h.y.le l1) (by omega)).mono fun v V2 l2 hv => ⟨_, hv, fun h2 => ?_, fun h2 => by rw [h2]; rfl⟩
 rw [h2]
 exact (p07 (h.z.le (View.le_trans l1 l2)) (by omega)).mono fun v V3 l3 hv => ⟨_, hv, by simp⟩
theorem P03 {V : View} {s : b01} {f : F3} {S : Nat} (h : c0c V s f) (sf : f.szle S) (hS : S ≤ 2 ^ 40) : a00 prog D06 #[s.val] V fun v _ => v = .bool f.real := by
 unfold F3.real
 refine A06 s V _ ((O07 h.o sf.o hS).mono fun v V1 l1 hv => ⟨_, hv, fun h1 => ?_, fun h1 => by rw [h1]; rfl⟩)
 rw [h1]
 refine (O07 (h.u.le l1) sf.u hS).mono fun v V2 l2 hv => ⟨_, hv, fun h2 => ?_, fun h2 => by rw [h2]; rfl⟩
 rw [h2]
 exact (O07 (h.v.le (View.le_trans l1 l2)) sf.v hS).mono fun v V3 l3 hv => ⟨_, hv, by simp⟩
theorem a0a {V : View} {a b : y00} {n : NumV} {p q : P3} {f : Cq} {S T F : Nat} (hp : n08 V a p) (hq : n08 V b q) (hf : QAt V n f) (sp : p.szle S) (sq : q.szle T) (sf : f.sz ≤ F) (hS : S + T + F ≤ 2 ^ 38) :
 a00 prog Y07 #[a.val, b.val, n.val] V fun v V' => ∃ r : y00, v = r.val ∧ n08 V' r (b0c p f q) := by
 obtain ⟨s1, s2, s3⟩ := sp
 obtain ⟨t1, t2, t3⟩ := sq
 have a1 := W00 f q.x; have a2 := W00 f q.y; have a3 := W00 f q.z
 refine H0b a b n V _ ((Y01 hf hq.x (by omega) (by omega)).mono fun v V1 l1 ⟨r1, hv, h1⟩ => ⟨r1, hv, ?_⟩)
 refine (s05 (hp.x.le l1) h1 (by omega) (by omega)).mono fun v V2 l2 ⟨r2, hv, h2⟩ => ⟨r2, hv, ?_⟩
 have L2 := View.le_trans l1 l2
 refine (Y01 (hf.le L2) (hq.y.le L2) (by omega) (by omega)).mono fun v V3 l3 ⟨r3, hv, h3⟩ => ⟨r3, hv, ?_⟩
 refine (s05 (hp.y.le (View.le_trans L2 l3)) h3 (by omega) (by omega)).mono fun v V4 l4 ⟨r4, hv, h4⟩ => ⟨r4, hv, ?_⟩
 have L4 := View.le_trans L2 (View.le_trans l3 l4)
 refine (Y01 (hf.le L4) (hq.z.le L4) (by omega) (by omega)).mono fun v V5 l5 ⟨r5, hv, h5⟩ => ⟨r5, hv, ?_⟩
 refine (s05 (hp.z.le (View.le_trans L4 l5)) h5 (by omega) (by omega)).mono fun v V6 l6 ⟨r6, hv, h6⟩ => ⟨r6, hv, ⟨r2, r4, r6⟩, rfl, ?_, ?_, h6⟩
 · exact h2.le (View.le_trans l3 (View.le_trans l4 (View.le_trans l5 l6)))
 · exact h4.le (View.le_trans l5 l6)
theorem M04 {V : View} {a b : y00} {p q : P3} {S T : Nat} (hp : n08 V a p) (hq : n08 V b q) (sp : p.szle S) (sq : q.szle T) (hS : S + T ≤ 2 ^ 37) :
 a00 prog n0c #[a.val, b.val] V fun v V' => ∃ r : NumV, v = r.val ∧ QAt V' r (dotP p q) := by
 obtain ⟨s1, s2, s3⟩ := sp
 obtain ⟨t1, t2, t3⟩ := sq
 have a1 := W00 p.x q.x; have a2 := W00 p.y q.y; have a3 := W00 p.z q.z
 have b1 := y06 (p.x * q.x) (p.y * q.y)
 refine I0b a b V _ ((Y01 hp.x hq.x (by omega) (by omega)).mono fun v V1 l1 ⟨r1, hv, h1⟩ => ⟨r1, hv, ?_⟩)
 refine (Y01 (hp.y.le l1) (hq.y.le l1) (by omega) (by omega)).mono fun v V2 l2 ⟨r2, hv, h2⟩ => ⟨r2, hv, ?_⟩
 refine (s05 (h1.le l2) h2 (by omega) (by omega)).mono fun v V3 l3 ⟨r3, hv, h3⟩ => ⟨r3, hv, ?_⟩
 have L := View.le_trans l1 (View.le_trans l2 l3)
 refine (Y01 (hp.z.le L) (hq.z.le L) (by omega) (by omega)).mono fun v V4 l4 ⟨r4, hv, h4⟩ => ⟨r4, hv, ?_⟩
 exact (s05 (h3.le l4) h4 (by omega) (by omega)).mono fun v V5 l5 ⟨r5, hv, h5⟩ => ⟨r5, hv, r5, rfl, h5⟩
theorem n0d {V : View} {a b : y00} {p q : P3} {S T : Nat} (hp : n08 V a p) (hq : n08 V b q) (sp : p.szle S) (sq : q.szle T) (hS : S + T ≤ 2 ^ 37) {n : NumV} (hn : QAt V n ⟨((-1 : Int) : Rat), 0⟩) :
 a00 prog Y07 #[a.val, b.val, n.val] V fun v V' => ∃ r : y00, v = r.val ∧ n08 V' r (X03 p q) :=
 a0a (f := k0q) hp hq hn sp sq M0f (by omega)
theorem C0e {V : View} {a b : y00} {p q : P3} {S T : Nat} (hp : n08 V a p) (hq : n08 V b q) (sp : p.szle S) (sq : q.szle T) (hS : S + T ≤ 2 ^ 35) :
 a00 prog d09 #[a.val, b.val] V fun v V' => ∃ r : NumV, v = r.val ∧ QAt V' r (dotP (X03 p q) (X03 p q)) := by
 have sl := O0e sp sq
 refine K08 a b V _ ((l05 (by omega) (by omega)).mono fun v V1 l1 ⟨r1, hv, h1⟩ => ⟨r1, hv, ?_⟩)
 refine (n0d (hp.le l1) (hq.le l1) sp sq (by omega) h1).mono fun v V2 l2 ⟨r2, hv, h2⟩ => ⟨r2, hv, ?_⟩
 exact (M04 h2 h2 sl sl (by omega)).mono fun v V3 l3 ⟨r3, hv, h3⟩ => ⟨r3, hv, r3, rfl, h3⟩
theorem o0d {V : View} {s : b01} {a b : NumV} {f : F3} {i j : Cq} {S T : Nat} (h : c0c V s f) (hi : QAt V a i) (hj : QAt V b j) (sf : f.szle S) (si : i.sz ≤ T) (sj : j.sz ≤ T) (hS : 3 * S + 2 * T ≤ 2 ^ 37) :
 a00 prog G0a #[s.val, a.val, b.val] V fun v V' => ∃ r : y00, v = r.val ∧ n08 V' r (N0f f i j) := by
 refine s0a s a b V _ ((a0a h.o h.u hi sf.o sf.u si (by omega)).mono fun v V1 l1 ⟨r1, hv, h1⟩ => ⟨r1, hv, ?_⟩)
 exact (a0a h1 (h.v.le l1) (hj.le l1) (q09 sf.o sf.u si) sf.v sj (by omega)).mono fun v V2 l2 ⟨r2, hv, h2⟩ => ⟨r2, hv, r2, rfl, h2⟩
theorem l0t {V : View} {r : NumV} (h : QAt V r ⟨((0 : Int) : Rat), 0⟩) : QAt V r Cq.zero := h
theorem Z0k {V : View} {s : b01} {f : F3} {S : Nat} (h : c0c V s f) (sf : f.szle S) (hS : S ≤ 2 ^ 36) :
 a00 prog F0b #[s.val] V fun v V' => ∃ r : NumV, v = .tuple #[r.val, .int .i64 (if f.real = true then 0 else 1)] ∧ QAt V' r (if f.real = true then dotP f.u f.v else Cq.zero) := by
 refine M0a s V _ ((P03 h sf (by omega)).mono fun v V1 l1 hv => ⟨_, hv, fun hr => ?_, fun hr => ?_⟩)
 · have e : f.real = false := by simpa using hr
   rw [e]; exact (l05 (by omega) (by omega)).mono fun v V2 l2 ⟨r, hv, h2⟩ => ⟨r, hv, r, rfl, l0t h2⟩
 · have e : f.real = true := by simpa using hr
   rw [e]
   exact (M04 (h.u.le l1) (h.v.le l1) sf.u sf.v (by omega)).mono fun v V2 l2 ⟨r2, hv, h2⟩ => ⟨r2, hv, r2, rfl, h2⟩
theorem D0e {V : View} {s : b01} {f : F3} {S : Nat} (h : c0c V s f) (sf : f.szle S) (hS : S ≤ 2 ^ 30) :
 a00 prog a09 #[s.val] V fun v V' => ∃ r : b01, v = .tuple #[r.val, .int .i64 (u09 f)] ∧ H0h V' r (if u09 f = 0 then b0g f else F3.zero) := by
 have z1 := X04 sf.u sf.v
 have z2 := X04 sf.u sf.u
 unfold u09
 refine L08 s V _ ((P03 h sf (by omega)).mono fun v V1 l1 hv => ⟨_, hv, fun hr => ?_, fun hr => ?_⟩)
 · have e : f.real = false := by simpa using hr
   rw [e]; exact ⟨⟨⟨zN, zN, zN⟩, ⟨zN, zN, zN⟩, ⟨zN, zN, zN⟩⟩, rfl, H0h.zero V1⟩
 · have e : f.real = true := by simpa using hr
   rw [e]
   refine (M04 (h.u.le l1) (h.v.le l1) sf.u sf.v (by omega)).mono fun v V2 l2 ⟨r2, hv, h2⟩ => ⟨r2, hv, ?_⟩
   have L2 := View.le_trans l1 l2
   refine (M04 (h.u.le L2) (h.u.le L2) sf.u sf.u (by omega)).mono fun v V3 l3 ⟨r3, hv, h3⟩ => ⟨r3, hv, ?_⟩
   refine (T08 (h2.le l3) h3 (by omega) (by omega)).mono fun v V4 l4 ⟨r4, e4, hv, h4, hnz, hz⟩ => ⟨r4, e4, hv, fun hne => ?_, fun heq => ?_⟩
   · have hd : dotP f.u f.u = Cq.zero := by
       by_cases g : dotP f.u f.u = Cq.zero
       · exact g
       · have := hnz g; subst this; simp at hne
     have := hz hd; subst this
     rw [if_pos rfl, if_pos hd]
     exact ⟨⟨⟨zN, zN, zN⟩, ⟨zN, zN, zN⟩, ⟨zN, zN, zN⟩⟩, rfl, H0h.zero V4⟩
   · have hd : dotP f.u f.u ≠ Cq.zero := fun g => by have := hz g; subst this; simp at heq
     rw [if_pos rfl, if_neg hd]
     have z3 : ((dotP f.u f.v).div (dotP f.u f.u)).sz ≤ 4 * (6 * S + 5) + 8 := e0d (by omega) (by omega)
     refine (m0d h4).mono fun v V5 l5 ⟨r6, hv, h6⟩ => ⟨r6, hv, ?_⟩
     have L5 := View.le_trans L2 (View.le_trans l3 (View.le_trans l4 l5))
     refine (a0a (h.v.le L5) (h.u.le L5) h6 sf.v sf.u (by rw [y09]; exact z3) (by omega)).mono fun v V6 l6 ⟨r7, hv, h7⟩ => ⟨r7, hv, ⟨s.o, s.u, r7⟩, rfl, ?_⟩
     have L6 := View.le_trans L5 l6
     exact ⟨(h.o.le L6).toZ, (h.u.le L6).toZ, h7.toZ⟩
theorem e0j {V : View} {s : b01} {a b : NumV} {f : F3} {i j : Cq} {S T : Nat} (h : c0c V s f) (hi : QAt V a i) (hj : QAt V b j) (sf : f.szle S) (si : i.sz ≤ T) (sj : j.sz ≤ T) (hS : 3 * S + 2 * T ≤ 2 ^ 37) :
 a00 prog E0a #[s.val, a.val, b.val] V fun v V' => ∃ r : y00, v = .tuple #[r.val, .int .i64 (if N0d f i j = true then 0 else 1)] ∧ U0a V' r (if N0d f i j = true then N0f f i j else P3.zero) := by
 unfold N0d
 refine t0a s a b V _ ((P03 h sf (by omega)).mono fun v V1 l1 hv => ⟨_, hv, fun hr => ?_, fun hr => ?_⟩)
 · have e : f.real = false := by simpa using hr
   rw [e]; exact ⟨⟨zN, zN, zN⟩, rfl, U0a.zero V1⟩
 · have e : f.real = true := by simpa using hr
   rw [e]
   refine (p07 (hi.le l1) (by omega)).mono fun v V2 l2 hv => ⟨_, hv, fun hr => ?_, fun hr => ?_⟩
   · have e : decide (i.im = 0) = false := by simpa using hr
     rw [e]; exact ⟨⟨zN, zN, zN⟩, rfl, U0a.zero V2⟩
   · have e : decide (i.im = 0) = true := by simpa using hr
     rw [e]
     have L2 := View.le_trans l1 l2
     refine (p07 (hj.le L2) (by omega)).mono fun v V3 l3 hv => ⟨_, hv, fun hr => ?_, fun hr => ?_⟩
     · have e : decide (j.im = 0) = false := by simpa using hr
       rw [e]; exact ⟨⟨zN, zN, zN⟩, rfl, U0a.zero V3⟩
     · have e : decide (j.im = 0) = true := by simpa using hr
       rw [e]
       have L3 := View.le_trans L2 l3
       exact (o0d (h.le L3) (hi.le L3) (hj.le L3) sf si sj hS).mono fun v V4 l4 ⟨r4, hv, h4⟩ => ⟨r4, hv, r4, rfl, h4.toZ⟩
theorem E0e {V : View} {s : b01} {a : y00} {f : F3} {p : P3} {S : Nat} (h : c0c V s f) (ha : n08 V a p) (sf : f.szle S) (sp : p.szle S) (hS : S ≤ 2 ^ 10) :
 a00 prog b09 #[s.val, a.val] V fun v V' => ∃ i j o : NumV, v = .tuple #[i.val, j.val, o.val, .int .i64 (posE f p)] ∧ QAt V' i (if posE f p = 0 then posI f (X03 p f.o) else Cq.zero) ∧
  QAt V' j (if posE f p = 0 then posJ f (X03 p f.o) else Cq.zero) ∧ QAt V' o (if posE f p = 0 then D0q f p else Cq.zero) := by
 have sd := O0e sp sf.o
 have z1 := X04 sf.u sf.u
 have z2 := X04 sf.u sf.v
 have z3 := X04 sf.v sf.v
 have z4 := X04 sf.u sd
 have z5 := X04 sf.v sd
 unfold posE
 refine M08 s a V _ ((l05 (by omega) (by omega)).mono fun v V1 l1 ⟨r1, hv, h1⟩ => ⟨r1, hv, ?_⟩)
 have h1 := l0t h1
 refine (P03 (h.le l1) sf (by omega)).mono fun v V2 l2 hv => ⟨_, hv, fun hr => ?_, fun hr => ?_⟩
 · have e : f.real = false := by simpa using hr
   rw [e]; exact ⟨r1, r1, r1, rfl, h1.le l2, h1.le l2, h1.le l2⟩
 have e : f.real = true := by simpa using hr
 rw [e]
 have L2 := View.le_trans l1 l2
 refine (O07 (ha.le L2) sp (by omega)).mono fun v V3 l3 hv => ⟨_, hv, fun hr => ?_, fun hr => ?_⟩
 · have e : p.real = false := by simpa using hr
   have M := View.le_trans l2 l3
   rw [e]; exact ⟨r1, r1, r1, rfl, h1.le M, h1.le M, h1.le M⟩
 have e : p.real = true := by simpa using hr
 rw [e]
 have L3 := View.le_trans L2 l3
 refine (l05 (by omega) (by omega)).mono fun v V4 l4 ⟨r4, hv, h4⟩ => ⟨r4, hv, ?_⟩
 have L4 := View.le_trans L3 l4
 refine (n0d (ha.le L4) (h.o.le L4) sp sf.o (by omega) h4).mono fun v V5 l5 ⟨r5, hv, h5⟩ => ⟨r5, hv, ?_⟩
 have L5 := View.le_trans L4 l5
 refine (M04 (h.u.le L5) (h.u.le L5) sf.u sf.u (by omega)).mono fun v V6 l6 ⟨r6, hv, h6⟩ => ⟨r6, hv, ?_⟩
 have L6 := View.le_trans L5 l6
 refine (M04 (h.u.le L6) (h.v.le L6) sf.u sf.v (by omega)).mono fun v V7 l7 ⟨r7, hv, h7⟩ => ⟨r7, hv, ?_⟩
 have L7 := View.le_trans L6 l7
 refine (M04 (h.v.le L7) (h.v.le L7) sf.v sf.v (by omega)).mono fun v V8 l8 ⟨r8, hv, h8⟩ => ⟨r8, hv, ?_⟩
 have L8 := View.le_trans L7 l8
 have M5 := View.le_trans l6 (View.le_trans l7 l8)
 refine (M04 (h.u.le L8) (h5.le M5) sf.u sd (by omega)).mono fun v V9 l9 ⟨r9, hv, h9⟩ => ⟨r9, hv, ?_⟩
 have L9 := View.le_trans L8 l9
 refine (M04 (h.v.le L9) (h5.le (View.le_trans M5 l9)) sf.v sd (by omega)).mono fun v V10 l10 ⟨r10, hv, h10⟩ => ⟨r10, hv, ?_⟩
 have K9 := l10
 have K8 := View.le_trans l9 K9
 have K7 := View.le_trans l8 K8
 have K6 := View.le_trans l7 K7
 have m1 := W00 (dotP f.u f.u) (dotP f.v f.v)
 have m2 := W00 (dotP f.u f.v) (dotP f.u f.v)
 have m3 := W00 (dotP f.u (X03 p f.o)) (dotP f.v f.v)
 have m4 := W00 (dotP f.v (X03 p f.o)) (dotP f.u f.v)
 have m5 := W00 (dotP f.u f.u) (dotP f.v (X03 p f.o))
 have m6 := W00 (dotP f.u f.v) (dotP f.u (X03 p f.o))
 have m7 := J05 (dotP f.u f.u * dotP f.v f.v) (dotP f.u f.v * dotP f.u f.v)
 have m8 := J05 (dotP f.u (X03 p f.o) * dotP f.v f.v) (dotP f.v (X03 p f.o) * dotP f.u f.v)
 have m9 := J05 (dotP f.u f.u * dotP f.v (X03 p f.o)) (dotP f.u f.v * dotP f.u (X03 p f.o))
 refine (Y01 (h6.le K6) (h8.le K8) (by omega) (by omega)).mono fun v V11 l11 ⟨r11, hv, h11⟩ => ⟨r11, hv, ?_⟩
 refine (Y01 (h7.le (View.le_trans K7 l11)) (h7.le (View.le_trans K7 l11)) (by omega) (by omega)).mono fun v V12 l12 ⟨r12, hv, h12⟩ => ⟨r12, hv, ?_⟩
 refine (Z09 (h11.le l12) h12 (by omega) (by omega)).mono fun v V13 l13 ⟨r13, hv, h13⟩ => ⟨r13, hv, ?_⟩
 have N13 := View.le_trans l11 (View.le_trans l12 l13)
 refine (Y01 (h9.le (View.le_trans K9 N13)) (h8.le (View.le_trans K8 N13)) (by omega) (by omega)).mono fun v V14 l14 ⟨r14, hv, h14⟩ => ⟨r14, hv, ?_⟩
 have N14 := View.le_trans N13 l14
 refine (Y01 (h10.le N14) (h7.le (View.le_trans K7 N14)) (by omega) (by omega)).mono fun v V15 l15 ⟨r15, hv, h15⟩ => ⟨r15, hv, ?_⟩
 refine (Z09 (h14.le l15) h15 (by omega) (by omega)).mono fun v V16 l16 ⟨r16, hv, h16⟩ => ⟨r16, hv, ?_⟩
 have O16 := View.le_trans l14 (View.le_trans l15 l16)
 have zd : (w09 f).sz ≤ 26 * S + 100 := by unfold w09; omega
 refine (T08 h16 (h13.le O16) (by omega) (by show (w09 f).sz ≤ _; omega)).mono fun v V17 l17 ⟨r17, e17, hv, h17, hnz, hz⟩ => ⟨r17, e17, hv, fun hne => ?_, fun heq => ?_⟩
 · have hd : w09 f = Cq.zero := by
     by_cases g : w09 f = Cq.zero
     · exact g
     · have := hnz g; subst this; simp at hne
   rw [if_pos (show (true && true) = true from rfl), if_pos hd]
   have M17 := View.le_trans l2 (View.le_trans l3 (View.le_trans l4 (View.le_trans l5 (View.le_trans l6 (View.le_trans K6 (View.le_trans N13 (View.le_trans O16 l17)))))))
   exact ⟨r1, r1, r1, rfl, h1.le M17, h1.le M17, h1.le M17⟩
 · have hd : w09 f ≠ Cq.zero := fun g => by have := hz g; subst this; simp at heq
   rw [if_pos (show (true && true) = true from rfl), if_neg hd]
   have N17 := View.le_trans N13 (View.le_trans O16 l17)
   refine (Y01 (h6.le (View.le_trans K6 N17)) (h10.le N17) (by omega) (by omega)).mono fun v V18 l18 ⟨r19, hv, h19⟩ => ⟨r19, hv, ?_⟩
   have N18 := View.le_trans N17 l18
   refine (Y01 (h7.le (View.le_trans K7 N18)) (h9.le (View.le_trans K9 N18)) (by omega) (by omega)).mono fun v V19 l19 ⟨r20, hv, h20⟩ => ⟨r20, hv, ?_⟩
   refine (Z09 (h19.le l19) h20 (by omega) (by omega)).mono fun v V20 l20 ⟨r21, hv, h21⟩ => ⟨r21, hv, ?_⟩
   have P20 := View.le_trans l18 (View.le_trans l19 l20)
   refine (T08 h21 (h13.le (View.le_trans O16 (View.le_trans l17 P20))) (by omega) (by show (w09 f).sz ≤ _; omega)).mono fun v V21 l21 ⟨r22, e22, hv, h22, _, _⟩ => ⟨r22, e22, hv, ?_⟩
   have zI : (posI f (X03 p f.o)).sz ≤ 4 * (30 * S + 200) + 8 := e0d (by omega) (by omega)
   have zJ : (posJ f (X03 p f.o)).sz ≤ 4 * (30 * S + 200) + 8 := e0d (by omega) (by omega)
   have K5 := View.le_trans l6 K6
   have LL := View.le_trans L5 (View.le_trans K5 (View.le_trans N17 (View.le_trans P20 l21)))
   have hI : QAt V21 r17 (posI f (X03 p f.o)) := h17.le (View.le_trans P20 l21)
   have hJ : QAt V21 r22 (posJ f (X03 p f.o)) := h22
   refine (o0d (h.le LL) hI hJ sf zI zJ (by omega)).mono fun v V22 l22 ⟨r24, hv, h24⟩ => ⟨r24, hv, ?_⟩
   refine (C0e (ha.le (View.le_trans LL l22)) h24 sp (O0f sf zI zJ) (by omega)).mono fun v V23 l23 ⟨r25, hv, h25⟩ => ⟨r25, hv, r17, r22, r25, rfl, hI.le (View.le_trans l22 l23), hJ.le (View.le_trans l22 l23), h25⟩

theorem G0q {V : View} {a b c : NumV} {x y z : Cq} {S : Nat} (ha : U00 V a x) (hb : U00 V b y) (hc : U00 V c z) (sx : x.sz ≤ S) (sy : y.sz ≤ S) (sz : z.sz ≤ S) (hS : S ≤ 2 ^ 30) :
 a00 prog C0l #[a.val, b.val, c.val] V fun v V' => ∃ r : NumV, v = r.val ∧ U00 V' r (A0k x y z) := by
 have s1 := J05 x y; have s2 := J05 z y
 refine l0k a b c V _ ((n07 ha hb (by omega) (by omega)).mono fun v V1 l1 ⟨r1, hv, h1⟩ => ⟨r1, hv, ?_⟩)
 refine (n07 (hc.le l1) (hb.le l1) (by omega) (by omega)).mono fun v V2 l2 ⟨r2, hv, h2⟩ => ⟨r2, hv, ?_⟩
 refine (e0b (h1.le l2) h2 (by omega) (by omega)).mono fun v V3 l3 ⟨r3, e, hv, hz, hn⟩ => ⟨r3, e, hv, r3, rfl, ?_⟩
 by_cases g : z - y = Cq.zero
 · have e1 : A0k x y z = Cq.zero := by
     unfold A0k; rw [g]
     refine Cq.ext' ?_ ?_ <;> simp only [Cq.div, Cq.norm, Cq.zero, Rat.mul_zero, Rat.add_zero, Rat.div_def, Rat.inv_zero]
   rw [e1]; exact (hz g).2
 · exact (hn g).2
theorem a0l {V : View} {a b c : NumV} {x y z : Cq} {S : Nat} (ha : U00 V a x) (hb : U00 V b y) (hc : U00 V c z) (sx : x.sz ≤ S) (sy : y.sz ≤ S) (sz : z.sz ≤ S) (hS : S ≤ 2 ^ 34) :
 a00 prog u0g #[a.val, b.val, c.val] V fun v V' => ∃ r : NumV, v = r.val ∧ U00 V' r (S0i x y z) := by
 have s1 := J05 y x; have s2 := W00 z (y - x)
 refine A0f a b c V _ ((n07 hb ha (by omega) (by omega)).mono fun v V1 l1 ⟨r1, hv, h1⟩ => ⟨r1, hv, ?_⟩)
 refine (U03 (hc.le l1) h1 (by omega) (by omega)).mono fun v V2 l2 ⟨r2, hv, h2⟩ => ⟨r2, hv, ?_⟩
 exact (k05 (ha.le (View.le_trans l1 l2)) h2 (by omega) (by omega)).mono fun v V3 l3 ⟨r3, hv, h3⟩ => ⟨r3, hv, r3, rfl, h3⟩
theorem f0j {V : View} {s : Sl} {l : List Tk} (h : P08 V s l) {p : Option Addr} (hp : V.load p = some s.v) {t : Nat} {k : Tk} (hk : l[t]? = some k) :
 a00 prog b0a #[.int .i64 (t : Int), .pointer p] V fun v V' => ∃ r : NumV, v = .tuple #[r.val, .bool (decide (k.place.im = 0))] ∧ U00 V' r k.time := by
 obtain ⟨g, y, hy, _, hs, ⟨h1, g1⟩, h2, g2⟩ := Z0c h (t := (t : Int)) (by omega) (k := k) (by rw [Int.toNat_natCast]; exact hk)
 refine E0d (t : Int) p V _ ⟨s, hp, g, hs, y.time, h1, g1, s, hp, g, hs, y.place, h2, g2, ?_⟩
 exact (O03 hy.place).mono fun v V1 l1 hv => ⟨_, hv, _, rfl, hy.time.le l1⟩
theorem T0g {V : View} {s : Sl} {l : List Tk} (h : P08 V s l) {S : Nat} (hz : ∀ k ∈ l, k.szle S) (hS : S ≤ 2 ^ 30) {p : Option Addr} (hp : V.load p = some s.v) :
 a00 prog q0e #[.int .i64 (s.len : Int), (Fn1.mk p).val b0a] V fun v _ => ∃ r : Int, v = .int .i64 r ∧ r = K0d l := by
 have hl : s.len = l.length := h.len
 refine m06 (s.len : Int) ⟨p⟩ V _ (fun _ _ _ => 1 ≤ l.length ∧ l.length ≤ 4096)
  (fun _ x V' => ∃ t : Nat, x.t16 = t ∧ t ≤ l.length ∧ (∀ k, x0e l t = some k → U00 V' x.o5 k.time ∧ k.time.im = 0) ∧ ascF none l = ascF ((x0e l t).map fun k => k.time.re) (l.drop t)) (fun _ x _ => l.length - x.t16.toNat) ?_
 rw [hl]
 refine ⟨⟨fun h0 => ⟨_, rfl, ?_⟩, fun h0 => ⟨fun h1 => ⟨_, rfl, ?_⟩, fun h1 => ?_⟩⟩, ?_⟩
 · unfold K0d; rw [if_pos (.inl (by simpa using h0))]
 · unfold K0d; rw [if_pos (.inr (by simp at h1; omega))]
 · have h0 : l.length ≠ 0 := by simpa using h0
   exact ⟨by omega, by simp at h1; omega⟩
 rintro ⟨u⟩ V1 l1 ⟨hn1, hn2⟩
 refine ⟨⟨0, rfl, by omega, fun k hk => by simp [x0e] at hk, rfl⟩, ?_⟩
 rw [s0q hn1 hn2]
 rintro ⟨t16, o5⟩ V2 l2 ⟨t, et, ht, ho, hE⟩
 dsimp only at et ho ⊢
 subst et
 have L2 := View.le_trans l1 l2
 refine ⟨fun hlt => ?_, fun hge => ⟨_, rfl, ?_⟩⟩
 · have hk : t < l.length := by simp at hlt; omega
   have ek : l[t]? = some l[t] := List.getElem?_eq_getElem hk
   have hmem : l[t] ∈ l := List.getElem_mem hk
   obtain ⟨zt, zp⟩ := hz _ hmem
   rw [p0m ek] at hE
   generalize hkk : l[t] = k at *
   refine (f0j (h.le L2) (S02 L2 hp) ek).mono fun v V3 l3 ⟨r1, hv, h1⟩ => ⟨r1, _, hv, fun c => ⟨_, rfl, ?_⟩, fun c => ?_⟩
   · have c : ¬ k.place.im = 0 := by simpa using c
     rw [hE]; unfold ascF; rw [if_pos (by unfold Tk.real; simp [c])]
   have c : k.place.im = 0 := by simpa using c
   refine (O03 h1).mono fun v V4 l4 hv => ⟨_, hv, fun d => ⟨_, rfl, ?_⟩, fun d => ?_⟩
   · have d : ¬ k.time.im = 0 := by simpa using d
     rw [hE]; unfold ascF; rw [if_pos (by unfold Tk.real; simp [d])]
   have d : k.time.im = 0 := by simpa using d
   have hr : ¬ k.real = false := by unfold Tk.real; simp [c, d]
   have step : ∀ V', View.le V4 V' → (∀ q, x0e l t = some q → ¬ k.time.re ≤ q.time.re) → (∃ t' : Nat, i64.wrap ((t : Int) + 1) = t' ∧ t' ≤ l.length ∧ (∀ k, x0e l t' = some k → U00 V' r1 k.time ∧ k.time.im = 0) ∧ ascF none l = ascF ((x0e l t').map fun k => k.time.re) (l.drop t')) ∧ l.length - (i64.wrap ((t : Int) + 1)).toNat < l.length - (t : Int).toNat := by
    intro V' l' hq
    rw [i64w (by omega) (by omega)]
    refine ⟨⟨t + 1, by omega, by omega, ?_, ?_⟩, by omega⟩
    · intro k' hk'
      rw [J0h, ek] at hk'
      obtain rfl := Option.some.inj hk'
      exact ⟨h1.le (View.le_trans l4 l'), d⟩
    · rw [hE, J0h, ek]
      conv => lhs; unfold ascF
      rw [if_neg hr]
      cases hpa : x0e l t with
      | none => rfl
      | some q =>
        simp only [Option.map_some]
        rw [if_neg (hq q hpa)]
   refine ⟨fun c0 => ?_, fun c0 => step V4 (View.le_refl _) fun q hq => ?_⟩
   · have hpos : 0 < t := by simp at c0; omega
     have ep : l[t - 1]? = some l[t - 1] := List.getElem?_eq_getElem (by omega)
     have hpa : x0e l t = some l[t - 1] := by unfold x0e; rw [if_neg (by omega), ep]
     obtain ⟨ho1, ho2⟩ := ho _ hpa
     have zq := (hz _ (List.getElem_mem (show t - 1 < l.length by omega))).1
     generalize l[t - 1] = q at *
     refine (d0b (h1.le l4) (ho1.le (View.le_trans l3 l4)) (by omega) (by omega)).mono fun v V5 l5 hv => ⟨_, hv, fun e => ⟨_, rfl, ?_⟩, fun e => step V5 l5 fun q' hq' => ?_⟩
     · rw [f0n d ho2] at e
       have e : k.time.re ≤ q.time.re := by
        rcases T0e k.time.re q.time.re with ⟨g, _⟩ | ⟨g, _⟩ | ⟨_, g⟩
        · grind
        · grind
        · rw [g] at e; simp at e
       rw [hE, hpa]
       conv => rhs; unfold ascF
       rw [if_neg hr]
       simp only [Option.map_some]
       rw [if_pos e]
     · rw [hpa] at hq'
       obtain rfl := Option.some.inj hq'
       rw [f0n d ho2] at e
       rcases T0e k.time.re q.time.re with ⟨_, g⟩ | ⟨_, g⟩ | ⟨g, _⟩
       · rw [g] at e; simp at e
       · rw [g] at e; simp at e
       · grind
   · have : t = 0 := by simp at c0; omega
     subst this
     simp [x0e] at hq
 · have e : t = l.length := by simp at hge; omega
   subst e
   rw [hE, List.drop_length]; rfl
theorem b0l {V : View} {s : Sl} {l : List Tk} (h : P08 V s l) {S : Nat} (hz : ∀ k ∈ l, k.szle S) (hS : S ≤ 2 ^ 30) :
 a00 prog t0g #[s.v] V fun v _ => ∃ r : Int, v = .int .i64 r ∧ r = K0d l := by
 refine B0f s V _ fun b1 V1 l1 hb1 => ?_
 have hld : V1.load (some (Addr.mk b1 0 none)) = some s.v := by simp [View.load, hb1]
 exact ⟨s, hld, (T0g (h.le l1) hz hS hld).mono fun v V2 l2 ⟨r, hv, hr⟩ => ⟨r, hv, r, rfl, hr⟩⟩
theorem c0l (z w : Cq) : -1 ≤ z.cmp w ∧ z.cmp w ≤ 1 := by
 unfold Cq.cmp
 split
 · rcases T0e z.re w.re with ⟨_, g⟩ | ⟨_, g⟩ | ⟨_, g⟩ <;> rw [g] <;> decide
 · rcases T0e z.im w.im with ⟨_, g⟩ | ⟨_, g⟩ | ⟨_, g⟩ <;> rw [g] <;> decide
theorem H0q {a b : Int} (ha : -1 ≤ a ∧ a ≤ 1) (hb : -1 ≤ b ∧ b ≤ 1) : i64.wrap (a * b) = a * b := by
 have h1 : a = -1 ∨ a = 0 ∨ a = 1 := by omega
 have h2 : b = -1 ∨ b = 0 ∨ b = 1 := by omega
 rcases h1 with rfl | rfl | rfl <;> rcases h2 with rfl | rfl | rfl <;> decide
theorem Y0o {V : View} {s : Sl} {l : List Tk} (h : P08 V s l) (hn : 1 ≤ l.length) (hn2 : l.length ≤ 2 ^ 40) {x : NumV} {p : Cq} (hx : U00 V x p) {S : Nat} (hz : ∀ k ∈ l, k.szle S) (zp : p.sz ≤ S) (hS : S ≤ 2 ^ 28) :
 a00 prog I0j #[s.v, x.val] V fun v V' => ∃ (r : NumV) (b : Bool), v = .tuple #[r.val, .bool b] ∧ b = (A08 p l).isSome ∧ U00 V' r ((A08 p l).getD Cq.zero) := by
 have hl : s.len = l.length := h.len
 have ek : l[0]? = some l[0] := List.getElem?_eq_getElem (by omega)
 obtain ⟨g, y, hy, _, hs, ⟨h1, g1⟩, h2, g2⟩ := Z0c h (t := 0) (by omega) (k := l[0]) ek
 obtain ⟨z1, z2⟩ := hz _ (List.getElem_mem (show 0 < l.length by omega))
 have e0 : A08 p l = if l[0].place = p then some l[0].time else S0f p l[0] (l.drop 1) := by
  rw [show A08 p l = A08 p (l.drop 0) from rfl, p0m ek]; rfl
 refine D0i s x V _ (fun _ z _ => ∃ (i : Nat) (a : Tk), z.t6 = i ∧ 1 ≤ i ∧ i ≤ l.length ∧ l[i - 1]? = some a ∧ A08 p l = S0f p a (l.drop i)) (fun _ z _ => l.length - z.t6.toNat) ⟨g, hs, y.place, h2, g2, ?_⟩
 refine (c0d hy.place hx (by omega) (by omega)).mono fun v V1 l1 hv => ⟨_, hv, fun c => ?_, fun c => ⟨?_, ?_⟩⟩
 · have c : l[0].place = p := by simpa using c
   rw [e0, if_pos c]
   exact ⟨g, hs, y.time, j08 l1 h1, g1, _, _, rfl, rfl, hy.time.le l1⟩
 · have c : ¬ l[0].place = p := by simpa using c
   exact ⟨1, l[0], rfl, by omega, by omega, ek, by rw [e0, if_neg c]⟩
 rintro ⟨t6, o4⟩ V2 l2 ⟨i, a, ei, i1, i2, ea, hE⟩
 dsimp only at ei ⊢
 subst ei
 have L2 := View.le_trans l1 l2
 rw [hl]
 refine ⟨fun hlt => ?_, fun hge => ?_⟩
 · have hk : i < l.length := by simp at hlt; omega
   rw [i64w (n := (i : Int) - 1) (by omega) (by omega), i64w (n := (i : Int) + 1) (by omega) (by omega)]
   have eb : l[i]? = some l[i] := List.getElem?_eq_getElem hk
   obtain ⟨za1, za2⟩ := hz a (List.mem_of_getElem? ea)
   obtain ⟨zb1, zb2⟩ := hz _ (List.getElem_mem hk)
   rw [p0m eb] at hE
   obtain ⟨ga, ya, hya, hha, hsa, _⟩ := Z0c (h.le L2) (t := (i : Int) - 1) (by omega) (k := a) (by rw [show ((i : Int) - 1).toNat = i - 1 by omega]; exact ea)
   obtain ⟨gb, yb, hyb, hhb, hsb, _⟩ := Z0c (h.le L2) (t := (i : Int)) (by omega) (k := l[i]) (by rw [Int.toNat_natCast]; exact eb)
   rw [hl] at ga gb
   generalize l[i] = b at *
   have step : S0f p b (l.drop (i + 1)) = A08 p l → (∃ (j : Nat) (a : Tk), ((i : Int) + 1) = j ∧ 1 ≤ j ∧ j ≤ l.length ∧ l[j - 1]? = some a ∧ A08 p l = S0f p a (l.drop j)) ∧ l.length - ((i : Int) + 1).toNat < l.length - (i : Int).toNat :=
    fun he => ⟨⟨i + 1, b, by omega, by omega, by omega, by rw [Nat.add_sub_cancel]; exact eb, he.symm⟩, by omega⟩
   have eF : A08 p l = if 0 < (a.place.cmp p) * (b.place.cmp p) ∨ a.place = b.place then S0f p b (l.drop (i + 1)) else some (S0i a.time b.time (A0k p a.place b.place)) := hE
   have hxx := hx.le L2
   refine ⟨ga, ya, hha, hsa, gb, yb, hhb, hsb, (d0b hya.place hxx (by omega) (by omega)).mono fun v V3 l3 hv => ⟨_, hv, ?_⟩⟩
   refine (d0b (hyb.place.le l3) (hxx.le l3) (by omega) (by omega)).mono fun v V4 l4 hv => ⟨_, hv, ?_⟩
   rw [H0q (c0l _ _) (c0l _ _)]
   have L4 := View.le_trans l3 l4
   refine ⟨fun c => step ?_, fun c => (c0d (hya.place.le L4) (hyb.place.le L4) (by omega) (by omega)).mono fun v V5 l5 hv => ⟨_, hv, fun d => step ?_, fun d => ?_⟩⟩
   · rw [eF, if_pos (.inl (by simpa using c))]
   · rw [eF, if_pos (.inr (by simpa using d))]
   have c : ¬ 0 < (a.place.cmp p) * (b.place.cmp p) := by
    have := of_decide_eq_false c
    exact this
   have d : ¬ a.place = b.place := by simpa using d
   rw [if_neg (by rintro (g | g)
                  · exact c g
                  · exact d g)] at eF
   have L5 := View.le_trans L4 l5
   have s1 := J05 p a.place; have s2 := J05 b.place a.place
   have s3 := e0d (z := p - a.place) (w := b.place - a.place) (S := 2 * S + 2) (by omega) (by omega)
   refine (G0q (hxx.le L5) (hya.place.le L5) (hyb.place.le L5) zp za2 zb2 (by omega)).mono fun v V6 l6 ⟨r5, hv, h5⟩ => ⟨r5, hv, ?_⟩
   refine (a0l (hya.time.le (View.le_trans L5 l6)) (hyb.time.le (View.le_trans L5 l6)) h5 (S := 8 * S + 16) (by omega) (by omega) (by show ((p - a.place).div (b.place - a.place)).sz ≤ _; omega) (by omega)).mono fun v V7 l7 ⟨r6, hv, h6⟩ => ⟨r6, hv, ?_⟩
   rw [eF]
   exact ⟨_, _, rfl, rfl, h6⟩
 · have e : i = l.length := by simp at hge; omega
   subst e
   rw [List.drop_length] at hE
   rw [hE]
   exact ⟨_, _, rfl, rfl, U00.zero V2⟩
theorem I0q {V : View} {s : Sl} {l : List Tk} (h : P08 V s l) {x : NumV} {p : Cq} (hx : U00 V x p) {S : Nat} (hz : ∀ k ∈ l, k.szle S) (zp : p.sz ≤ S) (hS : S ≤ 2 ^ 28) :
 a00 prog A0l #[s.v, x.val] V fun v V' => ∃ r : NumV, v = .tuple #[r.val, .int .i64 (C0k p l)] ∧ U00 V' r (D0k p l) := by
 have nil : ∀ (e : Int) (V' : View), C0k p l = e → D0k p l = Cq.zero → ∃ r : NumV, Value.tuple #[zN.val, .int .i64 e] = Value.tuple #[r.val, .int .i64 (C0k p l)] ∧ U00 V' r (D0k p l) := fun e V' he h0 => by
  rw [he, h0]; exact ⟨_, rfl, U00.zero V'⟩
 refine m0k s x V _ ((b0l h hz (by omega)).mono fun v V1 l1 ⟨r1, hv, e1⟩ => ⟨r1, hv, fun c => ?_, fun c => ?_⟩)
 · have c : K0d l ≠ 0 := by rw [← e1]; simpa using c
   exact nil _ V1 (by unfold C0k; rw [if_neg c, e1]) (by unfold D0k; rw [if_neg (by rintro ⟨g, _⟩; exact c g)])
 have c : K0d l = 0 := by rw [← e1]; simpa using c
 obtain ⟨n1, n2, asc⟩ := q0q c
 refine (O03 (hx.le l1)).mono fun v V2 l2 hv => ⟨_, hv, fun d => ?_, fun d => ?_⟩
 · have d : ¬ p.im = 0 := by simpa using d
   exact nil _ V2 (by unfold C0k; rw [if_pos c, if_neg d]) (by unfold D0k; rw [if_neg (by rintro ⟨_, g⟩; exact d g)])
 have d : p.im = 0 := by simpa using d
 have eE : C0k p l = if (A08 p l).isSome = true then 0 else 5 := by unfold C0k; rw [if_pos c, if_pos d]
 have eV : D0k p l = (A08 p l).getD Cq.zero := by unfold D0k; rw [if_pos ⟨c, d⟩]
 have L2 := View.le_trans l1 l2
 refine (Y0o (h.le L2) n1 (by omega) (hx.le L2) hz zp hS).mono fun v V3 l3 ⟨r3, b, hv, hb, h3⟩ => ⟨r3, b, hv, fun f => ?_, fun f => ?_⟩
 · have f : b = false := by simpa using f
   rw [f] at hb
   refine nil 5 V3 (by rw [eE, ← hb]; rfl) ?_
   rw [eV]
   cases hq : A08 p l with
   | none => rfl
   | some w => rw [hq] at hb; simp at hb
 · have f : b = true := by simpa using f
   rw [f] at hb
   rw [eE, eV, ← hb]
   exact ⟨r3, rfl, h3⟩

def ms0 : List Mk := [⟨0, 0, P3.zero⟩, ⟨1, 0, ⟨intQ 2, Cq.zero, Cq.zero⟩⟩, ⟨0, 1, ⟨intQ 1, intQ 3, Cq.zero⟩⟩]
def ts0 : List Tk := [⟨Cq.zero, Cq.zero⟩, ⟨intQ 10, intQ 5⟩]
theorem x0m : fitE ms0 = 0 := by decide +kernel
theorem p0r : (if (fitF ms0).real = true then dotP (fitF ms0).u (fitF ms0).v else Cq.zero) = intQ 2 := by decide +kernel
theorem q0r : (fitF ms0).real = true := by decide +kernel
theorem s0r : C0k (intQ 3) ts0 = 0 := by decide +kernel
theorem m0t : D0k (intQ 3) ts0 = intQ 6 := by decide +kernel
theorem J0t : ((cqS (intQ 2)).toList == (ByteArray.mk #[50]).toList) = true := by decide +kernel
theorem K0t : ((cqS (intQ 6)).toList == (ByteArray.mk #[54]).toList) = true := by decide +kernel
theorem M0h {V : View} {n : Int} (h0 : -9223372036854775808 ≤ n) (h1 : n ≤ 9223372036854775807) :
 a00 prog E0j #[.int .i64 n] V fun v V' => ∃ r : NumV, v = r.val ∧ U00 V' r (intQ n) := c0b h0 h1
theorem w0s {V : View} : a00 prog G0j #[.int .i64 4, .int .i64 2] V fun v _ => v = .tuple #[.int .i64 (-2), .int .i64 0] := by
 have h1 : a00 prog a0i #[.int .i64 4] V fun v _ => v = .bool true :=
  N0g 4 V _ ⟨fun _ => ⟨fun _ => rfl, fun h => absurd h (by decide)⟩, fun h => absurd h (by decide)⟩
 refine F0i 4 2 V _ (h1.mono fun v V1 _ hv => ⟨_, hv, fun h => absurd h (by decide), fun _ => ⟨fun h => absurd h (by decide), fun _ => ⟨fun h => absurd h (by decide), fun _ => ?_⟩⟩⟩)
 exact (E0i 4 2 V1 (fun v _ => v = .int .i64 (-2)) ⟨fun h => absurd h (by decide), fun _ => rfl⟩).mono fun v V2 _ hv => ⟨_, hv, rfl⟩
theorem g0j {V : View} : a00 prog D0a #[] V fun v _ => v = .bool true := by
 refine u0a V _ ((M0h (by omega) (by omega)).mono fun v V1 l1 ⟨r1, hv, h1⟩ => ⟨r1, hv, ?_⟩)
 refine (M0h (by omega) (by omega)).mono fun v V2 l2 ⟨r2, hv, h2⟩ => ⟨r2, hv, ?_⟩
 refine (M0h (by omega) (by omega)).mono fun v V3 l3 ⟨r3, hv, h3⟩ => ⟨r3, hv, fun b1 V4 l4 _ hb1 => ?_⟩
 have hz4 : U00 V4 zN Cq.zero := U00.zero V4
 have hM : c0g V4 (Sl.mk (some (Addr.mk b1 0 none)) 3 3) ms0 := by
  refine T00.of_block (V := V4) (sz := 17) (P := W0o) (zs := ms0) (o := (C0d.mk 0 0 ⟨zN, zN, zN⟩).val.cells.toList ++ ((C0d.mk 1 0 ⟨r1, zN, zN⟩).val.cells.toList ++ (C0d.mk 0 1 ⟨r2, r3, zN⟩).val.cells.toList)) (o' := []) (b := b1) (fun _ => by rw [List.append_nil]; exact hb1) ?_ rfl (Nat.le_refl _) (fun _ => rfl)
  exact ⟨_, _, rfl, rfl, ⟨_, rfl, rfl, rfl, hz4, hz4, hz4⟩, _, _, rfl, rfl, ⟨_, rfl, rfl, rfl, h1.le (View.le_trans l2 (View.le_trans l3 l4)), hz4, hz4⟩, _, [], by rw [List.append_nil], rfl, ⟨_, rfl, rfl, rfl, h2.le (View.le_trans l3 l4), h3.le l4, hz4⟩, rfl⟩
 have s0 : ∀ m ∈ ms0, m.in64 ∧ m.p.szle 1100 := by
  have z0 : Cq.zero.sz ≤ 64 := by decide +kernel
  have i0 : ∀ n : Int, -9223372036854775808 ≤ n ∧ n ≤ 9223372036854775807 → (intQ n).sz ≤ 1100 := fun n h => Nat.le_trans (W09 h) (by omega)
  intro m hm
  simp only [ms0, List.mem_cons, List.not_mem_nil, or_false] at hm
  rcases hm with rfl | rfl | rfl
  · exact ⟨⟨⟨by decide, by decide⟩, ⟨by decide, by decide⟩⟩, Nat.le_trans z0 (by omega), Nat.le_trans z0 (by omega), Nat.le_trans z0 (by omega)⟩
  · exact ⟨⟨⟨by decide, by decide⟩, ⟨by decide, by decide⟩⟩, i0 2 (by omega), Nat.le_trans z0 (by omega), Nat.le_trans z0 (by omega)⟩
  · exact ⟨⟨⟨by decide, by decide⟩, ⟨by decide, by decide⟩⟩, i0 1 (by omega), i0 3 (by omega), Nat.le_trans z0 (by omega)⟩
 refine (o0r hM (fun m hm => (s0 m hm).1) (fun m hm => (s0 m hm).2)).mono fun v V5 l5 ⟨r4, hv, h4, hsz⟩ => ⟨r4, _, hv, ?_⟩
 rw [x0m] at h4
 simp only [if_true] at h4
 refine (Q0k h4 (hsz x0m) (by omega)).mono fun v V6 l6 ⟨r6, hv, h6⟩ => ⟨r6, _, hv, ?_⟩
 rw [p0r] at h6
 refine (M0h (by omega) (by omega)).mono fun v V7 l7 ⟨r8, hv, h8⟩ => ⟨r8, hv, ?_⟩
 refine (M0h (by omega) (by omega)).mono fun v V8 l8 ⟨r9, hv, h9⟩ => ⟨r9, hv, fun b2 V9 l9 _ hb2 => ?_⟩
 have hz9 : U00 V9 zN Cq.zero := U00.zero V9
 have hT : P08 V9 (Sl.mk (some (Addr.mk b2 0 none)) 2 2) ts0 := by
  refine T00.of_block (V := V9) (sz := 10) (P := Q0o) (zs := ts0) (o := (m0c.mk zN zN).val.cells.toList ++ (m0c.mk r8 r9).val.cells.toList) (o' := []) (b := b2) (fun _ => by rw [List.append_nil]; exact hb2) ?_ rfl (Nat.le_refl _) (fun _ => rfl)
  exact ⟨_, _, rfl, rfl, ⟨_, rfl, hz9, hz9⟩, _, [], by rw [List.append_nil], rfl, ⟨_, rfl, h8.le (View.le_trans l8 l9), h9.le l9⟩, rfl⟩
 refine (M0h (by omega) (by omega)).mono fun v V10 l10 ⟨r10, hv, h10⟩ => ⟨r10, hv, ?_⟩
 have t0 : ∀ k ∈ ts0, k.szle 64 := by
  have z0 : Cq.zero.sz ≤ 64 := by decide +kernel
  intro k hk
  simp only [ts0, List.mem_cons, List.not_mem_nil, or_false] at hk
  rcases hk with rfl | rfl
  · exact ⟨z0, z0⟩
  · exact ⟨W09 (by omega), W09 (by omega)⟩
 refine (I0q (S := 64) (hT.le l10) h10 t0 (W09 (by omega)) (by omega)).mono fun v V11 l11 ⟨r11, hv, h11⟩ => ⟨r11, _, hv, ?_⟩
 rw [m0t] at h11
 refine w0s.mono fun v V12 l12 hv => ⟨_, _, hv, fun _ => ⟨fun _ => ?_, fun h => ?_⟩, fun h => ?_⟩
 · have L12 := View.le_trans l7 (View.le_trans l8 (View.le_trans l9 (View.le_trans l10 (View.le_trans l11 l12))))
   have i2 : (intQ 2).sz ≤ 2 ^ 40 := Nat.le_trans (W09 (by omega)) (by omega)
   have i6 : (intQ 6).sz ≤ 2 ^ 40 := Nat.le_trans (W09 (by omega)) (by omega)
   refine (Y09 (h6.le L12) i2).mono fun v V13 l13 hv => ⟨_, hv, fun _ => ⟨fun _ => ?_, fun h => ?_⟩, fun h => ?_⟩
   · refine (Y09 (h11.le (View.le_trans l12 l13)) i6).mono fun v V14 _ hv => ⟨_, hv, fun _ => ⟨fun _ => rfl, fun h => absurd h (by decide)⟩, fun h => ?_⟩
     rw [K0t] at h; exact absurd h (by decide)
   · rw [s0r] at h; exact absurd h (by decide)
   · rw [J0t] at h; exact absurd h (by decide)
 · rw [if_pos q0r] at h; exact absurd h (by decide)
 · rw [x0m] at h; exact absurd h (by decide)

theorem x09 {V : View} {s : Sl} {N : Nat} (h : m00 V s N) (hb : bl N ≤ 2 ^ 42) :
 a00 prog J06 #[s.v] V fun v _ => v = .string (decS N) := by
 have hz := h.len_zero
 have hlow := J0d N
 refine C0f s V _
  (fun _ x V' => ∃ (X : Nat) (dl : List Nat), m00 V' x.t0 X ∧ X ≤ N ∧ J03 1 x.t3l x.t3c x.o3 (digC dl) ∧ x.t3l = dl.length ∧ low N = dl ++ low X) (fun _ x V' => a0c V' x.t0)
  (fun c x V' => ∃ (q r k : Nat) (dl : List Nat), m00 V' c.t4 q ∧ q ≤ N ∧ x.t5 = (r : Int) ∧ x.t6 = (k : Int) ∧ k ≤ 9 ∧ r < 10 ^ (9 - k) ∧ J03 1 x.t3l x.t3c x.o3 (digC dl) ∧ x.t3l = dl.length ∧ low N = dl ++ low (q * 10 ^ (9 - k) + r)) (fun _ x _ => (9 - x.t6).toNat)
  (fun c x _ => ∃ (i j : Nat) (w : List Value), x.t7 = (i : Int) ∧ x.t8 = (j : Int) ∧ j + i = c.t3l - 1 ∧ (i ≤ j + 1) ∧ x.o3 = revI w c.t3l i ∧ J03 1 c.t3l c.t3c w (digC (low N)) ∧ c.t3l = (low N).length) (fun _ x _ => (x.t8 - x.t7 + 2).toNat)
  ⟨fun h0 => ?_, fun h0 => ⟨⟨N, [], h, Nat.le_refl _, J03.nil, rfl, rfl⟩, ?_⟩⟩
 · have : s.len = 0 := by have : (s.len : Int) = 0 := (by simpa using h0); omega
   rw [hz.1 this, x0k]
 have hN0 : N ≠ 0 := by
  intro e; rw [← hz] at e; rw [e] at h0; simp at h0
 rintro ⟨t0, n, c, o⟩ V1 l1 ⟨X, dl, hX, hXN, hlo, hn, hval⟩
 dsimp only at hX hlo hn ⊢
 have hXz := hX.len_zero
 refine ⟨fun hp => ?_, fun hp => ?_⟩
 · simp only [gt_iff_lt, decide_eq_true_eq] at hp
   have hX0 : X ≠ 0 := fun e => by rw [← hXz] at e; omega
   have hbX : bl X ≤ 2 ^ 42 := Nat.le_trans (S0a hXN) hb
   refine (C08 (d := 1000000000) hX (G0f (by omega)) (by omega) (by omega)).mono fun v V2 l2 ⟨r1, hv, h1⟩ => ⟨r1, _, hv, ⟨X / 1000000000, X % 1000000000, 0, dl, h1, Nat.le_trans (Nat.div_le_self _ _) hXN, rfl, rfl, by omega, ?_, hlo, hn, ?_⟩, ?_⟩
   · exact Nat.mod_lt _ (by omega)
   · have : X / 1000000000 * 10 ^ (9 - 0) + X % 1000000000 = X := by
       rw [show (10 : Nat) ^ (9 - 0) = 1000000000 by decide]; omega
     rw [this]; exact hval
   rintro ⟨n3, c3, r3, k3, o3⟩ V3 l3 ⟨q, r, k, dl3, hq, hqN, rfl, rfl, hk, hr, hlo3, hn3, hval3⟩
   dsimp only at hq hlo3 hn3 ⊢
   have hqe := hq.inj (h1.le l3)
   have hlt9 : r < 1000000000 := Nat.lt_of_lt_of_le hr (by
    have : (10 : Nat) ^ (9 - k) ≤ 10 ^ 9 := Nat.pow_le_pow_right (by omega) (by omega)
    exact Nat.le_trans this (by decide))
   have hl3 : dl3.length ≤ 2 ^ 42 := by
    have := congrArg List.length hval3
    rw [List.length_append] at this; omega
   have hqz := hq.len_zero
   -- one more digit
   have step : (q ≠ 0 ∨ r ≠ 0) → k < 9 → ∀ (b1 : Nat) (V4 : View), V3.le V4 → View.Fin V4 → V4 b1 = some #[.int .u8 (u8.wrap (u32.wrap (48 + (Int.tmod (r : Int) 10))))] →
    ∃ (l1 : List Value) (l2 : List Value), J03 1 n3 c3 o3 l1 ∧ View.has V4 (some (Addr.mk b1 0 none)) l2 ∧ List.length l2 = 1 * 1 ∧ (∀ v ∈ l2, Value.oneCell' v = true) ∧ n3 + 1 ≤ maxLen ∧ (n3 + 1) * 1 ≤ 140737488355328 ∧
    ∀ (c1 : Nat) (l3 : List Value), J03 1 (n3 + 1) c1 l3 (l1 ++ l2) →
    (∃ (q' r' k' : Nat) (dl : List Nat), m00 V4 r1 q' ∧ q' ≤ N ∧ (u32.wrap (Int.tdiv (r : Int) 10)) = (r' : Int) ∧ (i64.wrap ((k : Int) + 1)) = (k' : Int) ∧ k' ≤ 9 ∧ r' < 10 ^ (9 - k') ∧ J03 1 (n3 + 1) c1 l3 (digC dl) ∧ n3 + 1 = dl.length ∧ low N = dl ++ low (q' * 10 ^ (9 - k') + r')) ∧ (9 - (i64.wrap ((k : Int) + 1))).toNat < (9 - (k : Int)).toNat := by
    intro hne hk9 b1 V4 l4 _ hb1
    rw [j0t] at hb1
    have hrr : r / 10 < 10 ^ (9 - (k + 1)) := by
     have : 10 ^ (9 - k) = 10 ^ (9 - (k + 1)) * 10 := by rw [← Nat.pow_succ]; congr 1; omega
     omega
    have hst := b0n (q := q) (r := r) (k := 9 - (k + 1)) hne
    rw [show 9 - (k + 1) + 1 = 9 - k by omega] at hst
    refine ⟨digC dl3, [.int .u8 ((48 + r % 10 : Nat) : Int)], hlo3, H0k hb1, rfl, oneC _, Nat.le_trans (show n3 + 1 ≤ 2 ^ 43 by omega) (by decide), by omega, fun c1 l3' hl3' => ⟨⟨q, r / 10, k + 1, dl3 ++ [r % 10], hq.le l4, hqN, u32q (by omega), by rw [i64w (by omega) (by omega)]; omega, hk9, hrr, ?_, by simp [hn3], ?_⟩, by rw [i64w (by omega) (by omega)]; omega⟩⟩
    · rw [← Q0f]; exact hl3'
    · rw [hval3, hst]; simp
   -- the end of the block
   have stop : (k = 9 ∨ q = 0 ∧ r = 0) → (∃ (X : Nat) (dl : List Nat), m00 V3 r1 X ∧ X ≤ N ∧ J03 1 n3 c3 o3 (digC dl) ∧ n3 = dl.length ∧ low N = dl ++ low X) ∧ a0c V3 r1 < a0c V1 t0 := by
    intro hs
    refine ⟨⟨q, dl3, hq, hqN, hlo3, hn3, ?_⟩, ?_⟩
    · rcases hs with rfl | ⟨rfl, rfl⟩
      · have : r = 0 := by simp at hr; omega
        subst this
        simpa using hval3
      · simpa using hval3
    · rw [l07 hq, l07 hX, hqe]
      omega
   refine ⟨fun hk9 => ⟨fun hr1 => ⟨fun _ => step (.inr ?_) (by have : (k : Int) < 9 := (by simpa using hk9); omega), fun h => absurd h (by simp)⟩, fun hr1 => ⟨fun hq1 => step (.inl ?_) (by have : (k : Int) < 9 := (by simpa using hk9); omega), fun hq1 => stop (.inr ⟨?_, ?_⟩)⟩⟩, fun hk9 => ⟨fun h => absurd h (by simp), fun _ => stop (.inl ?_)⟩⟩
   · simp only [gt_iff_lt, decide_eq_true_eq] at hr1; omega
   · simp only [gt_iff_lt, decide_eq_true_eq] at hq1
     intro e; rw [← hqz] at e; omega
   · simp only [gt_iff_lt, decide_eq_false_iff_not] at hq1; exact hqz.1 (by omega)
   · simp only [gt_iff_lt, decide_eq_false_iff_not] at hr1; omega
   · simp only [decide_eq_false_iff_not] at hk9; omega
 · simp only [gt_iff_lt, decide_eq_false_iff_not] at hp
   have hX0 : X = 0 := hXz.1 (by omega)
   rw [hX0, P0e, List.append_nil] at hval
   subst hval
   have hd0 : low N ≠ [] := by rw [P0f hN0]; simp
   have hl0 : 0 < (low N).length := List.length_pos_iff.2 hd0
   have hle := hlo.le
   have hol := hlo.len
   rw [Nat.mul_one] at hol
   refine ⟨⟨by intro e; rw [e] at hol; simp at hol; omega, ⟨by omega, trivial⟩, trivial⟩, ⟨0, n - 1, o, rfl, ?_, by omega, by omega, (y0k o n).symm, hlo, hn⟩, ?_⟩
   · show i64.wrap ((n : Int) - 1) = _
     rw [i64w (by omega) (by omega)]; omega
   rintro ⟨t7, t8, o7⟩ V7 l7 ⟨i, j, w, rfl, rfl, hij, hi, rfl, hw, _⟩
   dsimp only at hij hw ⊢
   have hwt := hw.take
   have hwl := hw.len
   rw [Nat.mul_one] at hwt hwl
   have htl : n ≤ w.length := by omega
   have g : ∀ p, p < n → w[p]? = some (.int .u8 (((48 + (low N).getD p 0 : Nat) : Nat) : Int)) := by
    intro p hp'
    rw [← List.getElem?_take_of_lt hp', hwt]
    exact o0n (by omega)
   have gd : ∀ p, p < n → w.getD p undef = .int .u8 (((48 + (low N).getD p 0 : Nat) : Nat) : Int) := fun p hp => by simp only [List.getD]; rw [g p hp]; rfl
   refine ⟨fun hlt => ?_, fun hge => ?_⟩
   · simp only [decide_eq_true_eq] at hlt
     have hij' : i < j := by omega
     rw [i64w (n := (i : Int) + 1) (by omega) (by omega), i64w (n := (j : Int) - 1) (by omega) (by omega)]
     simp only [Int.toNat_natCast, Nat.mul_one, Nat.zero_add]
     refine ⟨⟨by omega, by omega⟩, ((48 + (low N).getD j 0 : Nat) : Int), ?_, ⟨by omega, by omega⟩, ((48 + (low N).getD i 0 : Nat) : Int), ?_, ⟨by omega, by omega⟩, by rw [w04]; omega, ⟨by omega, by omega⟩, by rw [List.length_set, w04]; omega, ⟨i + 1, j - 1, w, by omega, by omega, by omega, by omega, ?_, hw, hn⟩, by omega⟩
     · rw [S0e (by omega) (by omega) (by omega), gd j (by omega)]
     · rw [S0e (by omega) (by omega) (by omega), gd i (by omega)]
     · have := z0k (o := w) htl hij hij'
       rw [gd i (by omega), gd j (by omega)] at this
       exact this
   · simp only [decide_eq_false_iff_not] at hge
     intro b4 V8 l8 hb4
     have ht10 := d0n (i := i) htl (by omega)
     rw [hwt, e0n hN0] at ht10
     refine ⟨decL N, ?_, by rw [S09 hN0]; omega, rfl, rfl⟩
     intro j' v hj
     have hjl : j' < n := by
      rcases Nat.lt_or_ge j' n with h | h
      · exact h
      · rw [List.getElem?_eq_none (by simp [S09 hN0]; omega)] at hj; simp at hj
     rw [F06 hb4]
     rw [← ht10, List.getElem?_take_of_lt hjl] at hj
     simpa using hj
theorem t0r {V : View} {s : Sl} {n : Nat} (h : m00 V s n) (hl : s.len = 1) : ((dig n).getD 0 0 = 1) ↔ n = 1 := by
 have h2 := h.len
 rw [hl] at h2
 have h3 := d01 n
 obtain ⟨w, hw⟩ : ∃ w, dig n = [w] := List.length_eq_one_iff.1 h2.symm
 rw [hw] at h3 ⊢
 simp [wval] at h3 ⊢
 omega
theorem S04 {V : View} {x : WhV} {s : Sl} {a : Int} {d : Nat} (hx : D02 V x a) (hs : m00 V s d) (hd : d ≠ 0) (ha : bl a.natAbs ≤ 2 ^ 41) (hdb : bl d ≤ 2 ^ 41) :
 a00 prog Q0l #[x.val, s.v] V fun v _ => v = .string (ratT a d) := by
 obtain ⟨b1, b2⟩ := b0j (a := a) hd
 obtain ⟨e1, e2, e3⟩ := U0k (a := a) hd
 have s1 := s09 (G04 a d).A.natAbs
 have s2 := s09 (G04 a d).D
 have hmax : i64.max = 9223372036854775807 := by decide
 have z1 : (ByteArray.mk #[45]).size = 1 := rfl
 have z2 : (ByteArray.mk #[47]).size = 1 := rfl
 have hg0 : 0 < Nat.gcd a.natAbs d := Nat.gcd_pos_of_pos_right _ (by omega)
 refine n0k x s V _ ((z07 hx.2 hs (G0f (by omega)) (G0f (by omega))).mono fun v V1 l1 ⟨r1, hv, h1⟩ => ⟨r1, hv, ?_⟩)
 refine (k04 (hx.2.le l1) h1 (G0f (by omega)) (by omega)).mono fun v V2 l2 ⟨q1, m1, hv, h2, _⟩ => ⟨q1, m1, hv, ?_⟩
 refine (k04 (hs.le (View.le_trans l1 l2)) (h1.le l2) (G0f (by omega)) (by omega)).mono fun v V3 l3 ⟨q2, m2, hv, h3, _⟩ => ⟨q2, m2, hv, ?_⟩
 rw [← e1] at h2
 rw [← e2] at h3
 refine (x09 (h2.le l3) (by omega)).mono fun v V4 l4 hv => ⟨_, hv, ?_⟩
 have h3' := h3.le l4
 have hn := hx.1
 -- without a denominator, and with one
 have one : q2.len = 1 → (((0 : Int) ≤ 0 ∧ (0 : Int) < (q2.len : Nat) ∧ Option.isSome q2.a = true) ∧ View.load V4 (Option.map (fun q => Addr.add q (Int.toNat 0 * 1)) q2.a) = some (.int .u32 (((dig (G04 a d).D).getD (Int.toNat 0) 0 : Nat) : Int))) := fun hl =>
  ⟨⟨by omega, by omega, h3'.isSome (by omega)⟩, h3'.get (by omega) (by omega)⟩
 have ne1 : (G04 a d).D = 1 → q2.len = 1 := fun e => by rw [e] at h3'; have := h3'.len; rw [w0m] at this; exact this
 have rest : ∀ (pre : ByteArray), pre.size ≤ 2 ^ 42 + 2 → (G04 a d).D ≠ 1 → ratT a d = pre ++ (Q0e ++ decS (G04 a d).D) →
  ((ByteArray.size pre + ByteArray.size (ByteArray.mk #[47]) : Nat) : Int) ≤ i64.max ∧
  a00 prog J06 #[q2.v] V4 fun v V5 => ∃ r7 : ByteArray, v = .string r7 ∧
  ((ByteArray.size (pre ++ (ByteArray.mk #[47])) + ByteArray.size r7 : Nat) : Int) ≤ i64.max ∧
  Value.string ((pre ++ (ByteArray.mk #[47])) ++ r7) = Value.string (ratT a d) := by
  intro pre hp h1 he
  refine ⟨by rw [z2, hmax]; omega, (x09 h3' (by omega)).mono fun v V5 l5 hv => ⟨_, hv, by rw [g04, z2, hmax]; omega, ?_⟩⟩
  rw [he, Q09]; rfl
 have tail : ∀ (pre : ByteArray), pre.size ≤ 2 ^ 42 + 2 → ((G04 a d).D = 1 → ratT a d = pre) → ((G04 a d).D ≠ 1 → ratT a d = pre ++ (Q0e ++ decS (G04 a d).D)) →
  ((((q2.len : Int) : Int) == 1) = true →
  ((0 : Int) ≤ 0 ∧ (0 : Int) < (q2.len : Nat) ∧ Option.isSome q2.a = true) ∧
  ∃ x1 : Int, View.load V4 (Option.map (fun q => Addr.add q (Int.toNat 0 * 1)) q2.a) = some (.int .u32 x1) ∧
  (((x1 : Int) == 1) = true → Value.string pre = Value.string (ratT a d)) ∧
  (((x1 : Int) == 1) = false →
    ((ByteArray.size pre + ByteArray.size (ByteArray.mk #[47]) : Nat) : Int) ≤ i64.max ∧
    a00 prog J06 #[q2.v] V4 fun v V5 => ∃ r7 : ByteArray, v = .string r7 ∧
    ((ByteArray.size (pre ++ (ByteArray.mk #[47])) + ByteArray.size r7 : Nat) : Int) ≤ i64.max ∧
    Value.string ((pre ++ (ByteArray.mk #[47])) ++ r7) = Value.string (ratT a d))) ∧
  ((((q2.len : Int) : Int) == 1) = false →
  (false = true → Value.string pre = Value.string (ratT a d)) ∧
  (false = false →
    ((ByteArray.size pre + ByteArray.size (ByteArray.mk #[47]) : Nat) : Int) ≤ i64.max ∧
    a00 prog J06 #[q2.v] V4 fun v V6 => ∃ r8 : ByteArray, v = .string r8 ∧
    ((ByteArray.size (pre ++ (ByteArray.mk #[47])) + ByteArray.size r8 : Nat) : Int) ≤ i64.max ∧
    Value.string ((pre ++ (ByteArray.mk #[47])) ++ r8) = Value.string (ratT a d))) := by
  intro pre hp he hne
  refine ⟨fun hl => ?_, fun hl => ⟨fun h => absurd h (by simp), fun _ => ?_⟩⟩
  · have hl : q2.len = 1 := by have : (q2.len : Int) = 1 := (by simpa using hl); omega
    obtain ⟨g1, g2⟩ := one hl
    have hw := t0r h3' hl
    refine ⟨g1, _, g2, fun h => ?_, fun h => ?_⟩
    · have : (((dig (G04 a d).D).getD 0 0 : Nat) : Int) = 1 := of_decide_eq_true (by rw [← h]; rfl)
      rw [he (hw.1 (by omega))]
    · have : ¬ (((dig (G04 a d).D).getD 0 0 : Nat) : Int) = 1 := of_decide_eq_false (by rw [← h]; rfl)
      have h1 : (G04 a d).D ≠ 1 := fun e => this (by have := hw.2 e; omega)
      exact rest pre hp h1 (hne h1)
  · have h1 : (G04 a d).D ≠ 1 := fun e => by rw [ne1 e] at hl; simp at hl
    exact rest pre hp h1 (hne h1)
 refine ⟨fun hneg => ⟨by rw [z1, hmax]; omega, tail _ (by rw [g04, z1]; omega) (fun e => ?_) (fun e => ?_)⟩, fun hneg => tail _ (by omega) (fun e => ?_) (fun e => ?_)⟩
 all_goals
  rw [hneg] at hn
  unfold ratT ratS
 · have hn : (G04 a d).A < 0 := e3.2 (of_decide_eq_true hn.symm)
   simp only [hn, e, if_true]; rfl
 · have hn : (G04 a d).A < 0 := e3.2 (of_decide_eq_true hn.symm)
   simp only [hn, e, if_true, if_false]; rfl
 · have hn : ¬ (G04 a d).A < 0 := fun h => (of_decide_eq_false hn.symm) (e3.1 h)
   simp only [hn, e, if_true, if_false]
 · have hn : ¬ (G04 a d).A < 0 := fun h => (of_decide_eq_false hn.symm) (e3.1 h)
   simp only [hn, e, if_false]
theorem U0g {V : View} {x : NumV} {z : Cq} (hx : QAt V x z) (hz : z.sz ≤ 2 ^ 40) : a00 prog I0l #[x.val] V fun v _ => v = .string (cqS z) := by
 have zA := z.szA; have zB := z.szB; have zD := z.szD
 have hD := z.D_pos
 have t1 := k0d (a := z.A) hD
 have t2 := k0d (a := z.B) hD
 have hmax : i64.max = 9223372036854775807 := by decide
 have z1 : (ByteArray.mk #[105]).size = 1 := rfl
 have z2 : (ByteArray.mk #[43]).size = 1 := rfl
 have hA0 := i0b hx.re
 have hB0 := i0b hx.im
 rw [J0r]
 refine o0k x V _ ⟨fun hr => ?_, fun hr => ⟨fun hA => ?_, fun hA => ?_⟩⟩
 · have hB : z.B = 0 := hB0.1 ((lenT _).1 hr)
   rw [if_pos hB]
   exact (S04 hx.re hx.under hD (by omega) (by omega)).mono fun v V3 l3 hv => ⟨_, hv, rfl⟩
 all_goals
  have hB : ¬ z.B = 0 := fun e => by rw [hB0.2 e] at hr; simp at hr
  rw [if_neg hB]
 · have hA : z.A = 0 := hA0.1 ((lenT _).1 hA)
   rw [if_pos hA]
   exact (S04 hx.im hx.under hD (by omega) (by omega)).mono fun v V3 l3 hv => ⟨_, hv, by rw [z1, hmax]; omega, rfl⟩
 · have hA : ¬ z.A = 0 := fun e => by rw [hA0.2 e] at hA; simp at hA
   have hneg := hx.im.1
   rw [if_neg hA]
   refine ⟨fun hn => ?_, fun hn => ?_⟩
   · rw [hn] at hneg
     rw [if_pos (of_decide_eq_true hneg.symm)]
     refine (S04 hx.re hx.under hD (by omega) (by omega)).mono fun v V3 l3 hv => ⟨_, hv, ?_⟩
     refine (S04 (hx.im.le l3) (hx.under.le l3) hD (by omega) (by omega)).mono fun v V4 l4 hv => ⟨_, hv, by rw [hmax]; omega, by rw [g04, z1, hmax]; omega, ?_⟩
     rw [Q09]; rfl
   · rw [hn] at hneg
     rw [if_neg (of_decide_eq_false hneg.symm)]
     refine (S04 hx.re hx.under hD (by omega) (by omega)).mono fun v V3 l3 hv => ⟨_, hv, by rw [z2, hmax]; omega, ?_⟩
     refine (S04 (hx.im.le l3) (hx.under.le l3) hD (by omega) (by omega)).mono fun v V4 l4 hv => ⟨_, hv, by rw [g04, z2, hmax]; omega, by rw [g04, g04, z1, z2, hmax]; omega, ?_⟩
     rw [Q09, Q09]; rfl
theorem d0l {V : View} {x y : NumV} {z : Cq} (hx : U00 V x z) (hy : QAt V y z) (hz : z.sz ≤ 2 ^ 40) : a00 prog I0p #[x.val, y.val] V fun v _ => v = .bool true := by
 refine J0o x y V _ ((Y09 hx hz).mono fun v V1 l1 hv => ⟨_, hv, (U0g (hy.le l1) hz).mono fun v V2 l2 hv => ⟨_, hv, ?_⟩⟩)
 rw [beq_self_eq_true]

def arrI (a : Arr3) : Prop := ratI a.e0 ∧ ratI a.e1 ∧ ratI a.e2
def arrP (a : Arr3) : P3 := ⟨ratQ a.e0, ratQ a.e1, ratQ a.e2⟩
theorem i0j {a : Arr3} (h : arrI a) : (arrP a).szle 64 := ⟨j0b h.1, j0b h.2.1, j0b h.2.2⟩
theorem D08 {V : View} {a : Arr3} (h : arrI a) : a00 prog E0b #[a.val] V fun v V' => ∃ r1 r2 : y00, v = .tuple #[r1.val, r2.val] ∧ T03 V' r1 (arrP a) ∧ n08 V' r2 (arrP a) := by
 obtain ⟨h0, h1, h2⟩ := h
 refine N0a a V _ ⟨⟨by omega, by omega⟩, ⟨by omega, by omega⟩, ⟨by omega, by omega⟩, ⟨by omega, by omega⟩, ⟨by omega, by omega⟩, ⟨by omega, by omega⟩, ?_⟩
 refine (o07 h0).mono fun v V1 l1 ⟨r1, hv, a1⟩ => ⟨r1, hv, (o07 h1).mono fun v V2 l2 ⟨r2, hv, a2⟩ => ⟨r2, hv, (o07 h2).mono fun v V3 l3 ⟨r3, hv, a3⟩ => ⟨r3, hv, ?_⟩⟩⟩
 refine (u06 h0).mono fun v V4 l4 ⟨r4, hv, a4⟩ => ⟨r4, hv, (u06 h1).mono fun v V5 l5 ⟨r5, hv, a5⟩ => ⟨r5, hv, (u06 h2).mono fun v V6 l6 ⟨r6, hv, a6⟩ => ⟨r6, hv, ⟨r1, r2, r3⟩, ⟨r4, r5, r6⟩, rfl, ?_, ?_⟩⟩⟩
 · have L := View.le_trans l4 (View.le_trans l5 l6)
   exact ⟨a1.le (View.le_trans l2 (View.le_trans l3 L)), a2.le (View.le_trans l3 L), a3.le L⟩
 · exact ⟨a4.le (View.le_trans l5 l6), a5.le l6, a6⟩
theorem H06 {V : View} {x y : NumV} {z : Cq} (hx : U00 V x z) (hy : QZ V y z) (hz : z.sz ≤ 2 ^ 40) : a00 prog J0c #[x.val, y.val] V fun v _ => v = .bool true := by
 refine s0c x y V _ ⟨fun h0 => ?_, fun h0 => ?_⟩
 · rcases hy with hy | ⟨_, e⟩
   · have h1 := hy.under.len_zero.1 (by simpa using h0)
     have := z.D_pos
     omega
   · exact (S08 hx hz).mono fun v V1 _ hv => ⟨_, hv, by rw [e]; rfl⟩
 · rcases hy with hy | ⟨e, _⟩
   · exact (d0l hx hy hz).mono fun v V1 _ hv => ⟨_, hv, rfl⟩
   · rw [e] at h0; exact absurd h0 (by decide)
theorem a07 {V : View} {a b : y00} {p : P3} {S : Nat} (ha : T03 V a p) (hb : U0a V b p) (hz : p.szle S) (hS : S ≤ 2 ^ 40) : a00 prog l0a #[a.val, b.val] V fun v _ => v = .bool true := by
 obtain ⟨z1, z2, z3⟩ := hz
 refine O09 a b V _ ((H06 ha.x hb.x (by omega)).mono fun v V1 l1 hv => ⟨_, hv, fun _ => ?_, fun h => absurd h (by decide)⟩)
 refine (H06 (ha.y.le l1) (hb.y.le l1) (by omega)).mono fun v V2 l2 hv => ⟨_, hv, fun _ => ?_, fun h => absurd h (by decide)⟩
 have L := View.le_trans l1 l2
 exact (H06 (ha.z.le L) (hb.z.le L) (by omega)).mono fun v V3 _ hv => ⟨_, hv, rfl⟩
def lfI (a : u07) : Prop := arrI a.o ∧ arrI a.u ∧ arrI a.v
def lfF (a : u07) : F3 := ⟨arrP a.o, arrP a.u, arrP a.v⟩
theorem n0t {a : u07} (h : lfI a) : (lfF a).szle 64 := ⟨i0j h.1, i0j h.2.1, i0j h.2.2⟩
theorem W0g {V : View} {a : u07} (h : lfI a) : a00 prog k0a #[a.val] V fun v V' => ∃ r1 r2 : b01, v = .tuple #[r1.val, r2.val] ∧ K04 V' r1 (lfF a) ∧ c0c V' r2 (lfF a) := by
 obtain ⟨h0, h1, h2⟩ := h
 refine P09 a V _ ((D08 h0).mono fun v V1 l1 ⟨r1, r2, hv, a1, a2⟩ => ⟨r1, r2, hv, ?_⟩)
 refine (D08 h1).mono fun v V2 l2 ⟨r3, r4, hv, a3, a4⟩ => ⟨r3, r4, hv, ?_⟩
 refine (D08 h2).mono fun v V3 l3 ⟨r5, r6, hv, a5, a6⟩ => ⟨r5, r6, hv, ⟨r1, r3, r5⟩, ⟨r2, r4, r6⟩, rfl, ?_, ?_⟩
 · exact ⟨a1.le (View.le_trans l2 l3), a3.le l3, a5⟩
 · exact ⟨a2.le (View.le_trans l2 l3), a4.le l3, a6⟩
theorem f0g {V : View} {a b : b01} {f : F3} {S : Nat} (ha : K04 V a f) (hb : H0h V b f) (hz : f.szle S) (hS : S ≤ 2 ^ 40) : a00 prog E09 #[a.val, b.val] V fun v _ => v = .bool true := by
 refine o09 a b V _ ((a07 ha.o hb.o hz.o hS).mono fun v V1 l1 hv => ⟨_, hv, fun _ => ?_, fun h => absurd h (by decide)⟩)
 refine (a07 (ha.u.le l1) (hb.u.le l1) hz.u hS).mono fun v V2 l2 hv => ⟨_, hv, fun _ => ?_, fun h => absurd h (by decide)⟩
 have L := View.le_trans l1 l2
 exact (a07 (ha.v.le L) (hb.v.le L) hz.v hS).mono fun v V3 _ hv => ⟨_, hv, rfl⟩
end Go.Proofs.YtefkpimcffofaaaGreat
namespace Go.Proofs.YtefkpimcffofaaaGreat
open Go Go.Vc Go.Proofs Go.ChangeShapes Go.RowKit
abbrev i3 (fs : List FK) : List FK := .int .i64 :: .int .i64 :: .int .i64 :: fs
theorem x0s {fs : List FK} {cs : List Value} (h : K0b (i3 fs) cs) :
 ∃ (r : RatV) (cs' : List Value), cs = .int .i64 r.re :: .int .i64 r.im :: .int .i64 r.den :: cs' ∧ ratI r ∧ K0b fs cs' := by
 cases cs with
 | nil => exact h.elim
 | cons x cs =>
   obtain ⟨⟨a, e1, w1⟩, h⟩ := h
   cases cs with
   | nil => exact h.elim
   | cons y cs =>
     obtain ⟨⟨b, e2, w2⟩, h⟩ := h
     cases cs with
     | nil => exact h.elim
     | cons z cs =>
       obtain ⟨⟨c, e3, w3⟩, h⟩ := h
       exact ⟨⟨a, b, c⟩, cs, by rw [e1, e2, e3], ⟨bounds_i64 w1, bounds_i64 w2, bounds_i64 w3⟩, h⟩
theorem nine {fs : List FK} {cs : List Value} (h : K0b (i3 (i3 (i3 fs))) cs) : ∃ (a : Arr3) (cs' : List Value), cs = a.val.cells.toList ++ cs' ∧ arrI a ∧ K0b fs cs' := by
 obtain ⟨r0, c0, e0, h0, h⟩ := x0s h
 obtain ⟨r1, c1, e1, h1, h⟩ := x0s h
 obtain ⟨r2, c2, e2, h2, h⟩ := x0s h
 exact ⟨⟨r0, r1, r2⟩, c2, by rw [e0, e1, e2]; rfl, ⟨h0, h1, h2⟩, h⟩
theorem e0l {cs : List Value} (h : K0b [] cs) : cs = [] := by
 cases cs with
 | nil => rfl
 | cons _ _ => exact h.elim
section
variable {H : Type} {enc : TypeId × Value → H} {P : Program} {w : World} {base : Nat} {spare : Nat → Bool} {held : Bool} {t : TypeId} {v : Value} {dd : DataW H} {ps : List MemPlace}
theorem J0q (hk : Y0i P 8 t = some (i3 (i3 (i3 [])))) (h : DataW.Trod enc P w base spare held t v dd ps) : ∃ x : Arr3, v = x.val ∧ arrI x := by
 obtain ⟨a, c, e, ha, h⟩ := nine (K0k hk h)
 rw [e0l h, List.append_nil] at e
 exact ⟨a, n0e e (by rintro ⟨⟩), ha⟩
theorem y0m (hk : Y0i P 8 t = some (i3 (i3 (i3 (i3 (i3 (i3 (i3 (i3 (i3 [])))))))))) (h : DataW.Trod enc P w base spare held t v dd ps) : ∃ x : u07, v = x.val ∧ lfI x := by
 obtain ⟨a, c, e, ha, h⟩ := nine (K0k hk h)
 obtain ⟨b, c1, e1, hb, h⟩ := nine h
 obtain ⟨d, c2, e2, hd, h⟩ := nine h
 rw [e1, e2, e0l h, List.append_nil] at e
 exact ⟨⟨a, b, d⟩, n0e e (by rintro ⟨⟩), ha, hb, hd⟩
end
end Go.Proofs.YtefkpimcffofaaaGreat
namespace Go.Proofs.YtefkpimcffofaaaGreat
open Go Go.Vc Go.Proofs
open Go.Proofs.Tryz (prog)
theorem f0l {f : F3} {S : Nat} (h : f.szle S) : (b0g f).szle (30 * S + 40) := by
 have z1 := X04 h.u h.v
 have z2 := X04 h.u h.u
 have z3 := e0d (z := dotP f.u f.v) (w := dotP f.u f.u) (S := 3 * (S + S) + 5) (by omega) (by omega)
 have z4 : (-((dotP f.u f.v).div (dotP f.u f.u))).sz ≤ 4 * (3 * (S + S) + 5) + 8 := by rw [y09]; exact z3
 obtain ⟨a, b, c⟩ := q09 h.v h.u z4
 obtain ⟨o1, o2, o3⟩ := h.o
 obtain ⟨u1, u2, u3⟩ := h.u
 exact ⟨⟨by show f.o.x.sz ≤ _; omega, by show f.o.y.sz ≤ _; omega, by show f.o.z.sz ≤ _; omega⟩, ⟨by show f.u.x.sz ≤ _; omega, by show f.u.y.sz ≤ _; omega, by show f.u.z.sz ≤ _; omega⟩, Nat.le_trans a (by omega), Nat.le_trans b (by omega), Nat.le_trans c (by omega)⟩
theorem p0d (S : Nat) (h : 2 ≤ S) : P3.zero.szle S := by
 have : Cq.zero.sz ≤ 2 := by decide +kernel
 exact ⟨by show Cq.zero.sz ≤ S; omega, by show Cq.zero.sz ≤ S; omega, by show Cq.zero.sz ≤ S; omega⟩
theorem Z0o (S : Nat) (h : 2 ≤ S) : F3.zero.szle S := ⟨p0d S h, p0d S h, p0d S h⟩
theorem u0r {c : Prop} [Decidable c] {z : Cq} {S : Nat} (h2 : 2 ≤ S) (h : c → z.sz ≤ S) : (if c then z else Cq.zero).sz ≤ S := by
 split
 · rename_i g; exact h g
 · have : Cq.zero.sz ≤ 2 := by decide +kernel
   omega
theorem o0t {c : Prop} [Decidable c] {p : P3} {S : Nat} (h2 : 2 ≤ S) (h : p.szle S) : (if c then p else P3.zero).szle S := by
 split
 · exact h
 · exact p0d S h2
theorem p0t {c : Prop} [Decidable c] {f : F3} {S : Nat} (h2 : 2 ≤ S) (h : f.szle S) : (if c then f else F3.zero).szle S := by
 split
 · exact h
 · exact Z0o S h2
theorem g0g {V : View} {f0 : u07} {i j : RatV} {a : Arr3} (hf : lfI f0) (hi : ratI i) (hj : ratI j) (ha : arrI a) :
 a00 prog m08 #[f0.val, i.val, j.val, a.val] V fun v _ => v = .bool true := by
 have zf := n0t hf; have zi := j0b hi; have zj := j0b hj; have zs := i0j ha
 refine c08 f0 i j a V _ ((W0g hf).mono fun v V1 l1 ⟨r1, r2, hv, h1, h2⟩ => ⟨r1, r2, hv, ?_⟩)
 refine (D08 ha).mono fun v V2 l2 ⟨r3, r4, hv, h3, h4⟩ => ⟨r3, r4, hv, ?_⟩
 generalize lfF f0 = f at *
 generalize arrP a = p at *
 refine (Q0k (h1.le l2) zf (by omega)).mono fun v V3 l3 ⟨r5, hv, h5⟩ => ⟨r5, _, hv, ?_⟩
 refine (Z0k (h2.le (View.le_trans l2 l3)) zf (by omega)).mono fun v V4 l4 ⟨r7, hv, h7⟩ => ⟨r7, _, hv, fun c => absurd c (by simp), fun _ => ?_⟩
 refine (H06 (h5.le l4) (.inl h7) (Nat.le_trans (u0r (S := 3 * (64 + 64) + 5) (by omega) fun _ => X04 zf.u zf.v) (by omega))).mono fun v V5 l5 hv => ⟨_, hv, fun c => absurd c (by decide), fun _ => ?_⟩
 have L15 := View.le_trans l2 (View.le_trans l3 (View.le_trans l4 l5))
 refine (Z0i (h1.le L15) zf (by omega)).mono fun v V6 l6 ⟨r10, hv, h10⟩ => ⟨r10, _, hv, ?_⟩
 refine (D0e (h2.le (View.le_trans L15 l6)) zf (by omega)).mono fun v V7 l7 ⟨r12, hv, h12⟩ => ⟨r12, _, hv, fun c => absurd c (by simp), fun _ => ?_⟩
 refine (f0g (h10.le l7) h12 (p0t (by omega) (f0l zf)) (by omega)).mono fun v V8 l8 hv => ⟨_, hv, fun c => absurd c (by decide), fun _ => ?_⟩
 have L18 := View.le_trans L15 (View.le_trans l6 (View.le_trans l7 l8))
 refine (o07 hi).mono fun v V9 l9 ⟨r15, hv, h15⟩ => ⟨r15, hv, (o07 hj).mono fun v V10 l10 ⟨r16, hv, h16⟩ => ⟨r16, hv, ?_⟩⟩
 have L1a := View.le_trans L18 (View.le_trans l9 l10)
 refine (U0o (h1.le L1a) (h15.le l10) h16 zf zi zj (by omega)).mono fun v V11 l11 ⟨r17, hv, h17⟩ => ⟨r17, _, hv, ?_⟩
 refine (u06 hi).mono fun v V12 l12 ⟨r19, hv, h19⟩ => ⟨r19, hv, (u06 hj).mono fun v V13 l13 ⟨r20, hv, h20⟩ => ⟨r20, hv, ?_⟩⟩
 have L1d := View.le_trans L1a (View.le_trans l11 (View.le_trans l12 l13))
 refine (e0j (h2.le L1d) (h19.le l13) h20 zf zi zj (by omega)).mono fun v V14 l14 ⟨r21, hv, h21⟩ => ⟨r21, _, hv, fun c => absurd c (by simp), fun _ => ?_⟩
 refine (a07 (h17.le (View.le_trans l12 (View.le_trans l13 l14))) h21 (o0t (by omega) (O0f zf zi zj)) (by omega)).mono fun v V15 l15 hv => ⟨_, hv, fun c => absurd c (by decide), fun _ => ?_⟩
 have L1f := View.le_trans L1d (View.le_trans l14 l15)
 have L2f := View.le_trans l3 (View.le_trans l4 (View.le_trans l5 (View.le_trans l6 (View.le_trans l7 (View.le_trans l8 (View.le_trans l9 (View.le_trans l10 (View.le_trans l11 (View.le_trans l12 (View.le_trans l13 (View.le_trans l14 l15)))))))))))
 refine (a0j (h1.le L1f) (h3.le L2f) zf zs (by omega)).mono fun v V16 l16 ⟨r24, r25, r26, hv, h24, h25, h26, hb⟩ => ⟨r24, r25, r26, _, hv, ?_⟩
 refine (E0e (h2.le (View.le_trans L1f l16)) (h4.le (View.le_trans L2f l16)) zf zs (by omega)).mono fun v V17 l17 ⟨r28, r29, r30, hv, h28, h29, h30⟩ => ⟨r28, r29, r30, _, hv, fun _ => ?_, fun c => absurd c (by simp)⟩
 refine (H06 (h24.le l17) (.inl h28) (u0r (by omega) fun g => Nat.le_trans (hb g).1 (by omega))).mono fun v V18 l18 hv => ⟨_, hv, fun _ => ?_, fun c => absurd c (by decide)⟩
 refine (H06 (h25.le (View.le_trans l17 l18)) (.inl (h29.le l18)) (u0r (by omega) fun g => Nat.le_trans (hb g).2.1 (by omega))).mono fun v V19 l19 hv => ⟨_, hv, fun _ => ?_, fun c => absurd c (by decide)⟩
 refine (H06 (h26.le (View.le_trans l17 (View.le_trans l18 l19))) (.inl (h30.le (View.le_trans l18 l19))) (u0r (by omega) fun g => Nat.le_trans (hb g).2.2 (by omega))).mono fun v V20 l20 hv => ⟨_, hv, fun _ => ?_, fun c => absurd c (by decide)⟩
 exact g0j.mono fun v V21 _ hv => ⟨_, hv, rfl⟩
