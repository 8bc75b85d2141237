/- Part. -/
import Derived.Test.YtkibfmnkkiakoaaGreatPartE
import Derived.Laws.StructEq
namespace Go.Proofs.YtkibfmnkkiakoaaGreat
open Go Go.Vc Go.Proofs
open Go.Proofs.Tryz (prog)
open Go.IntKind (i64 u64 u32 u8)
set_option maxHeartbeats 4000000 in
theorem n04 {V : View} {s t : Sl} {a b : Nat} (hs : e00 V s a) (ht : e00 V t b) (ha : wn a ≤ 2 ^ 43) (hb0 : b ≠ 0) :
 a00 prog S05 #[s.v, t.v] V fun v V' => ∃ q r : Sl, v = .tuple #[q.v, r.v] ∧ e00 V' q (a / b) ∧ e00 V' r (a % b) := by
 have hsl := hs.len
 have htl := ht.len
 obtain ⟨sh, hsh⟩ : ∃ sh, sh = 32 - bl ((dig b).getD (wn b - 1) 0) := ⟨_, rfl⟩
 obtain ⟨hsh1, hwv, hlo⟩ := E0n hb0 hsh
 obtain ⟨X, hX⟩ : ∃ X, X = a * 2 ^ sh := ⟨_, rfl⟩
 obtain ⟨vN, hvN⟩ : ∃ v, v = b * 2 ^ sh := ⟨_, rfl⟩
 rw [← hvN] at hwv hlo
 obtain ⟨m, hm⟩ : ∃ m, m = s.len + 1 := ⟨_, rfl⟩
 obtain ⟨n, hn⟩ : ∃ n, n = t.len := ⟨_, rfl⟩
 have hna : wn a = s.len := hsl.symm
 have hnb : wn b = n := by rw [hn]; exact htl.symm
 have hal := U09 a
 rw [hna] at ha hal
 rw [hnb] at hwv hlo
 have hcmp := S07 hs ht (by omega)
 obtain ⟨v1, hv1⟩ : ∃ v1, v1 = (dig vN).getD (n - 1) 0 := ⟨_, rfl⟩
 obtain ⟨v2, hv2⟩ : ∃ v2, v2 = (dig vN).getD (n - 2) 0 := ⟨_, rfl⟩
 refine f0f s t V _
  (fun c x V' => ∃ (v : Sl) (j : Nat) (u qd : List Nat), c = x00.mk (sh : Nat) v (n : Nat) (m - n) (m - n) ∧ e00 V' v vN ∧ x = B00.mk ((j : Int) - 1) (wv u) (wv qd) ∧ DivI X vN n m j u qd)
  (fun _ x _ => (x.t13 + 1).toNat)
  (fun c x _ => ∃ (v : Sl) (j g : Nat) (u qd : List Nat), c = o00.mk (sh : Nat) v (n : Nat) (m - n) (m - n) (j : Nat) (wv u) (wv qd) ∧ x = C00.mk (g : Nat) ∧ g < 4294967296 ∧ seg u j (n + 1) / vN ≤ g ∧ (g - 1) * vN ≤ seg u j (n + 1))
  (fun c x _ => ∃ (v : Sl) (j g r : Nat) (u qd : List Nat), c = k00.mk (sh : Nat) v (n : Nat) (m - n) (m - n) (j : Nat) (wv u) (wv qd) ∧ x = p00.mk (g : Nat) (r : Nat) ∧ r < 4294967296 ∧ g * v1 + r = u.getD (j + n) 0 * 4294967296 + u.getD (j + n - 1) 0 ∧
    seg u j (n + 1) / vN ≤ g)
  (fun _ x _ => x.t15.toNat)
  (fun c x _ => ∃ (v : Sl) (j g i cr bo : Nat) (u qd u0 : List Nat), c = D00.mk (sh : Nat) v (n : Nat) (m - n) (m - n) (j : Nat) (g : Nat) ∧ x = J00.mk (bo : Nat) (cr : Nat) (i : Nat) (wv u) (wv qd) ∧ M0k X vN n m j g i cr bo u qd u0)
  (fun _ x _ => (n - x.t19).toNat)
  (fun c x _ => ∃ (v : Sl) (j g k cr : Nat) (u qd u0 l' : List Nat), c = E00.mk (sh : Nat) v (n : Nat) (m - n) (m - n) (j : Nat) ((g - 1 : Nat) : Int) ∧ x = K00.mk (cr : Nat) (k : Nat) (wv u) (wv qd) ∧ 0 < g ∧ x0i X vN n m j g k cr u qd u0 l')
  (fun _ x _ => (n - x.t23).toNat)
  (hcmp.mono fun v V1 l1 hv => ⟨_, hv, fun hlt => ?_, fun hge => ⟨fun h1 => ?_, fun h2 => ?_⟩⟩)
 · -- a below b
   have hlt : a < b := by
    rcases Nat.lt_or_ge a b with h | h
    · exact h
    · exfalso; revert hlt; rw [if_neg (by omega)]; split <;> simp
   exact ⟨_, _, rfl, by rw [Nat.div_eq_of_lt hlt]; exact e00.zero V1, by rw [Nat.mod_eq_of_lt hlt]; exact hs.le l1⟩
 · -- one word
   have h1 : n = 1 := by have : (t.len : Int) = 1 := (by simpa using h1); omega
   have hb1 : b < 4294967296 := by have := U09 b; rw [hnb, h1] at this; simpa using this
   have hd : (dig b).getD 0 0 = b := by rw [a0d]; simp; omega
   have hg := (ht.le l1).get (i := 0) (by omega) (by omega)
   simp only [Int.toNat_zero, hd] at hg
   refine ⟨⟨by omega, by omega, ht.isSome (by omega)⟩, _, hg, ?_⟩
   refine (m0b (hs.le l1) (by omega) (by omega) hb1).mono fun v V2 l2 ⟨q, hv, hq⟩ => ⟨q, _, hv, ?_⟩
   have hmod : a % b < b := Nat.mod_lt _ (by omega)
   rw [u64w (by omega) (by omega)]
   refine (D03 (by omega) (by omega)).mono fun v V3 l3 ⟨r, hv, hr⟩ => ⟨r, hv, q, r, rfl, hq.le l3, ?_⟩
   rw [Int.toNat_natCast] at hr; exact hr
 -- many words
 have hab : b ≤ a := by
  rcases Nat.lt_or_ge a b with h | h
  · exfalso; revert hge; rw [if_pos h]; simp
  · exact h
 have hnm : n ≤ s.len := by rw [← hna, ← hnb]; exact K04 hab
 have hn0 : n ≠ 0 := by rw [← hnb]; intro e; exact hb0 (F02.1 e)
 have hn2 : 2 ≤ n := by have : ¬ (t.len : Int) = 1 := (by simpa using h2); omega
 have E2 : i64.wrap ((s.len : Int) + 1) = (m : Nat) := by rw [i64w (by omega) (by omega)]; omega
 have E3 : i64.wrap ((m : Int) - (n : Int)) = ((m - n : Nat) : Int) := by rw [i64w (by omega) (by omega)]; omega
 have E1 : i64.wrap ((n : Int) - 1) = ((n - 1 : Nat) : Int) := by rw [i64w (by omega) (by omega)]; omega
 have E4 : i64.wrap ((n : Int) - 2) = ((n - 2 : Nat) : Int) := by rw [i64w (by omega) (by omega)]; omega
 have E5 : i64.wrap (((m - n : Nat) : Int) - 1) = ((m - n : Nat) : Int) - 1 := by rw [i64w (by omega) (by omega)]
 have E6 : (t.len : Int) = (n : Nat) := by omega
 have hblb := M0u hb0
 have hbltop : bl ((dig b).getD (wn b - 1) 0) ≤ 32 := by
  have h3 := (d05 hb0).2.2
  have := F0a h3
  have := (q02 b).getD (wn b - 1)
  have := (Nat.pow_lt_pow_iff_right (a := 2) (n := bl ((dig b).getD (wn b - 1) 0) - 1) (m := 32) (by omega)).1 (by omega)
  omega
 have Esh : i64.wrap (i64.wrap (32 * (t.len : Int)) - (bl b : Nat)) = (sh : Nat) := by
  rw [i64w (n := 32 * (t.len : Int)) (by omega) (by omega), i64w (by omega) (by omega)]; omega
 refine (b0c (ht.le l1) (by omega)).mono fun v V4 l4 hv => ⟨_, hv, ?_⟩
 simp only [Esh]
 refine (m04 (ht.le (View.le_trans l1 l4)) (by omega) (by omega)).mono fun v V5 l5 ⟨w, hv, hw⟩ => ⟨w, hv, ?_⟩
 rw [← hvN] at hw
 have hwl : w.len = n := by have := hw.len; simp only [wn] at hwv; omega
 simp only [E2, Int.toNat_natCast, hwl, E3, E1, E4, E5]
 refine ⟨⟨by omega, by omega, by omega, by omega⟩, (m04 (hs.le (View.le_trans l1 (View.le_trans l4 l5))) (by omega) (by omega)).mono fun v V6 l6 ⟨ua, hv, hua⟩ => ⟨ua, hv, ?_⟩⟩
 rw [← hX] at hua
 have hXm : wn X ≤ m := by
  refine M02 ?_
  rw [hX, hm, Nat.pow_succ]
  exact Nat.mul_lt_mul'' hal (Nat.lt_of_le_of_lt (Nat.pow_le_pow_right (by omega) hsh1) (by omega))
 have hual := hua.len
 simp only [wn] at hXm
 refine ⟨wv (dig X), z00.has hua, by rw [g00]; omega, ?_, ?_, ?_, ⟨by omega, by omega, by omega, by omega⟩, ?_⟩
 · by_cases h0 : ua.len = 0
   · left; have : (dig X).length = 0 := by omega
     rw [List.eq_nil_of_length_eq_zero this]; rfl
   · right; exact hua.isSome (by omega)
 · intro v hv; simp only [wv, List.mem_map] at hv; obtain ⟨d, _, rfl⟩ := hv; rfl
 · rw [B02, g00, g00]; simp; omega
 rw [B02, B02, b0r m (dig X) (by omega)]
 have hq0 : seg (dig X ++ List.replicate (m - (dig X).length) 0) 0 m = X := by
  rw [q04 (by simp; omega), j0n, n00]
 have h7 := B0k hal hm hX hsh1 (by omega) (by omega) hlo _ hq0
 refine ⟨⟨w, m - n, _, _, rfl, hw.le l6, rfl, by omega, ?_, by simp; omega, WB.zeros _, by simp, ?_, h7⟩, ?_⟩
 · intro d hd
   rcases List.mem_append.1 hd with hd | hd
   · exact q02 X d hd
   · rw [(List.mem_replicate.1 hd).2]; omega
 · rw [show m - n + n = m by omega, hq0, Nat.sub_self, P02]; simp
 rintro _ V7 hle7 ⟨w', j, u, qd, hc, hw7, rfl, hD⟩
 obtain rfl : w' = w := by simp only [x00.mk.injEq] at hc; exact hc.2.1.symm
 have hjl := hD.jl
 have hlu := hD.lu
 have hlq := hD.lq
 have hwu := hD.wu
 simp only [K0m]
 refine ⟨fun hp => ?_, fun hp b1 V12 l12 hb1 b2 V13 l13 hb2 => ?_⟩
 · simp only [ge_iff_le, decide_eq_true_eq] at hp
   obtain ⟨i, rfl⟩ : ∃ i, j = i + 1 := ⟨j - 1, by omega⟩
   have e0 : (((i + 1 : Nat) : Int) - 1) = (i : Nat) := by omega
   simp only [e0]
   have F1 : i64.wrap ((i : Int) + (n : Int)) = ((i + n : Nat) : Int) := by rw [i64w (by omega) (by omega)]; omega
   have F2 : i64.wrap (((i + n : Nat) : Int) - 1) = ((i + n - 1 : Nat) : Int) := by rw [i64w (by omega) (by omega)]; omega
   have F3 : i64.wrap (((i + n : Nat) : Int) - 2) = ((i + n - 2 : Nat) : Int) := by rw [i64w (by omega) (by omega)]; omega
   have F4 : i64.wrap ((i : Int) - 1) = (i : Int) - 1 := by rw [i64w (by omega) (by omega)]
   simp only [F1, F2, F3, F4, Int.toNat_natCast, Nat.zero_add, Nat.mul_one]
   have G := N0h hwu hn2 hwv hD.lt
   rw [← hv1, ← hv2] at G
   obtain ⟨W, hW⟩ : ∃ W, W = seg u i (n + 1) := ⟨_, rfl⟩
   obtain ⟨u2, hu2⟩ : ∃ x, x = u.getD (i + n) 0 := ⟨_, rfl⟩
   obtain ⟨u1, hu1⟩ : ∃ x, x = u.getD (i + n - 1) 0 := ⟨_, rfl⟩
   obtain ⟨u0, hu0⟩ : ∃ x, x = u.getD (i + n - 2) 0 := ⟨_, rfl⟩
   rw [← hW, ← hu2, ← hu1, ← hu0] at G
   have hu2l : u2 < 4294967296 := by rw [hu2]; exact hwu.getD _
   have hv1l := G.h1
   have hv1p := G.pos
   have hu1l := G.k1
   have hv1b : 2147483648 ≤ v1 := by
    have hvn0 : vN ≠ 0 := by rintro rfl; rw [J04] at hwv; omega
    have h3 := (d05 hvn0).2.1
    rw [hwv, ← hv1] at h3
    have h4 : 2147483648 * 4294967296 ^ (n - 1) < (v1 + 1) * 4294967296 ^ (n - 1) := by omega
    have := Nat.lt_of_mul_lt_mul_right h4
    omega
   have gv1 := (hw7).get (i := ((n - 1 : Nat) : Int)) (by omega) (by omega)
   rw [Int.toNat_natCast, ← hv1, Nat.mul_one] at gv1
   have gv2 := (hw7).get (i := ((n - 2 : Nat) : Int)) (by omega) (by omega)
   rw [Int.toNat_natCast, ← hv2, Nat.mul_one] at gv2
   have hws := hw7.isSome (by omega)
   have hor : BitVec.toNat ((BitVec.ofInt u64.bits (u64.wrap ((u64.wrap (u2 : Int)) * 4294967296))) ||| (BitVec.ofInt u64.bits (u64.wrap (u1 : Int)))) = u2 * 4294967296 + u1 := by
    rw [u64w (n := (u2 : Int)) (by omega) (by omega), u64w (n := (u1 : Int)) (by omega) (by omega), u64w (by omega) (by omega), show (u2 : Int) * 4294967296 = ((u2 * 4294967296 : Nat) : Int) by omega]
    exact or64 hu1l hu2l
   refine ⟨⟨by omega, by omega⟩, _, U04 (by omega), ⟨by omega, by omega⟩, _, U04 (by omega), ⟨by omega, by omega, hws⟩, _, gv1, ?_, ⟨by omega, by omega, hws⟩, _, gv1, ?_, ⟨?_, ?_⟩, ?_⟩
   · rw [u64w (by omega) (by omega)]; omega
   · rw [u64w (by omega) (by omega)]; omega
   · -- the first guess
     rw [← hu2, ← hu1, hor, u64w (n := (v1 : Int)) (by omega) (by omega), u64w (n := ((u2 * 4294967296 + u1 : Nat) : Int)) (by omega) (by omega), ← Int.ofNat_tdiv, ← Int.ofNat_tmod]
     have h3 : (u2 * 4294967296 + u1) / v1 ≤ u2 * 4294967296 + u1 := Nat.div_le_self _ _
     have h4 : (u2 * 4294967296 + u1) % v1 < v1 := Nat.mod_lt _ hv1p
     have h5 := Nat.div_add_mod' (u2 * 4294967296 + u1) v1
     have h6 := G.init
     generalize (u2 * 4294967296 + u1) / v1 = g at *
     generalize (u2 * 4294967296 + u1) % v1 = r at *
     rw [u64w (n := (g : Int)) (by omega) (by omega)]
     refine ⟨w', i, g, r, u, qd, rfl, rfl, by omega, ?_, ?_⟩
     · rw [← hu2, ← hu1]; exact h5
     · rw [← hW]; exact h6
   · -- the guess is put down
     rintro _ V9 l9 ⟨w2, i2, g, r, u', qd', hc2, rfl, hr, hgr, hge⟩
     simp only [k00.mk.injEq] at hc2
     obtain ⟨_, rfl, _, _, _, hi2, hu', hq'⟩ := hc2
     obtain rfl : i2 = i := by omega
     obtain rfl := x0c hu'
     obtain rfl := x0c hq'
     rw [← hu2, ← hu1] at hgr
     rw [← hW] at hge
     have hgl : g < 8589934592 := by
      rcases Nat.lt_or_ge g 8589934592 with h | h
      · exact h
      · exfalso
        have := Nat.mul_le_mul h hv1b
        omega
     have gv1' := a02 l9 gv1
     have gv2' := a02 l9 gv2
     simp only
     -- a step down
     have down : 0 < g → W / vN ≤ g - 1 → (4294967296 ≤ r + v1 → (g - 1 - 1) * vN ≤ W ∧ g - 1 < 4294967296) →
      ((decide (((u64.wrap ((r : Int) + (u64.wrap (v1 : Int)))) : Int) ≥ 4294967296)) = true →
        ∃ (v : Sl) (j g' : Nat) (u1 qd1 : List Nat), o00.mk (sh : Nat) w' (n : Nat) (m - n) (m - n) (i2 : Nat) (wv u) (wv qd) = o00.mk (sh : Nat) v (n : Nat) (m - n) (m - n) (j : Nat) (wv u1) (wv qd1) ∧ C00.mk (u64.wrap ((g : Int) - 1)) = C00.mk (g' : Nat) ∧ g' < 4294967296 ∧ seg u1 j (n + 1) / vN ≤ g' ∧ (g' - 1) * vN ≤ seg u1 j (n + 1)) ∧
      ((decide (((u64.wrap ((r : Int) + (u64.wrap (v1 : Int)))) : Int) ≥ 4294967296)) = false →
        (∃ (v : Sl) (j g' r' : Nat) (u1 qd1 : List Nat), k00.mk (sh : Nat) w' (n : Nat) (m - n) (m - n) (i2 : Nat) (wv u) (wv qd) = k00.mk (sh : Nat) v (n : Nat) (m - n) (m - n) (j : Nat) (wv u1) (wv qd1) ∧
          p00.mk (u64.wrap ((g : Int) - 1)) (u64.wrap ((r : Int) + (u64.wrap (v1 : Int)))) = p00.mk (g' : Nat) (r' : Nat) ∧ r' < 4294967296 ∧ g' * v1 + r' = u1.getD (j + n) 0 * 4294967296 + u1.getD (j + n - 1) 0 ∧ seg u1 j (n + 1) / vN ≤ g') ∧
        (u64.wrap ((g : Int) - 1)).toNat < (g : Int).toNat) := by
      intro h0 h1 h2
      rw [u64w (n := (v1 : Int)) (by omega) (by omega), u64w (n := (r : Int) + v1) (by omega) (by omega), u64w (n := (g : Int) - 1) (by omega) (by omega)]
      have e1 : (g : Int) - 1 = ((g - 1 : Nat) : Int) := by omega
      have e2 : (r : Int) + v1 = ((r + v1 : Nat) : Int) := by omega
      rw [e1, e2]
      refine ⟨fun h => ?_, fun h => ?_⟩
      · simp only [ge_iff_le, decide_eq_true_eq] at h
        obtain ⟨h3, h4⟩ := h2 (by omega)
        exact ⟨w', i2, g - 1, u, qd, rfl, rfl, h4, by rw [← hW]; exact h1, by rw [← hW]; exact h3⟩
      · simp only [ge_iff_le, decide_eq_false_iff_not] at h
        refine ⟨⟨w', i2, g - 1, r + v1, u, qd, rfl, rfl, by omega, ?_, by rw [← hW]; exact h1⟩, by omega⟩
        rw [← hu2, ← hu1, ← hgr]
        obtain ⟨k, rfl⟩ : ∃ k, g = k + 1 := ⟨g - 1, by omega⟩
        rw [Nat.succ_mul, Nat.add_sub_cancel]; omega
     refine ⟨fun hp2 => ⟨fun _ => ?_, fun h => by cases h⟩, fun hp2 => ?_⟩
     · simp only [ge_iff_le, decide_eq_true_eq] at hp2
       have hq := G.quo
       refine ⟨⟨by omega, by omega, hws⟩, _, gv1', ?_⟩
       exact down (by omega) (by omega) (fun h => (G.brk hgr (by omega) h).symm)
     · simp only [ge_iff_le, decide_eq_false_iff_not] at hp2
       have hg32 : g < 4294967296 := by omega
       have hv2l := G.h2
       have hm1 := U0a hg32 hv2l
       have hu0l := G.k0
       refine ⟨⟨by omega, by omega, hws⟩, _, gv2', ⟨by omega, by omega⟩, _, U04 (by omega), ?_⟩
       rw [← hu0]
       have hor2 : BitVec.toNat ((BitVec.ofInt u64.bits (u64.wrap ((r : Int) * 4294967296))) ||| (BitVec.ofInt u64.bits (u64.wrap (u0 : Int)))) = r * 4294967296 + u0 := by
        rw [u64w (n := (u0 : Int)) (by omega) (by omega), u64w (by omega) (by omega), show (r : Int) * 4294967296 = ((r * 4294967296 : Nat) : Int) by omega]
        exact or64 hu0l hr
       rw [hor2, u64w (n := (v2 : Int)) (by omega) (by omega), ← Int.natCast_mul, u64w (n := ((g * v2 : Nat) : Int)) (by omega) (by omega), u64w (n := ((r * 4294967296 + u0 : Nat) : Int)) (by omega) (by omega)]
       refine ⟨fun hp3 => ?_, fun hp3 => ?_⟩
       · simp only [gt_iff_lt, decide_eq_true_eq] at hp3
         have hd := G.dec hgr (by omega)
         refine ⟨⟨by omega, by omega, hws⟩, _, gv1', ?_⟩
         have hg0 : 0 < g := Nat.lt_of_le_of_lt (Nat.zero_le _) hd
         exact down hg0 (Nat.le_sub_one_of_lt hd) (fun h => (G.brk hgr hg0 h).symm)
       · simp only [gt_iff_lt, decide_eq_false_iff_not] at hp3
         exact ⟨w', i2, g, u, qd, rfl, rfl, hg32, by rw [← hW]; exact hge, by rw [← hW]; exact G.exit hgr hg32 (by omega)⟩
   · -- the guess is taken
     rintro _ V8 l8 ⟨w2, i2, g, u', qd', hc2, rfl, hg32, hge, hgl⟩
     simp only [o00.mk.injEq] at hc2
     obtain ⟨_, rfl, _, _, _, hi2, hu', hq'⟩ := hc2
     obtain rfl : i2 = i := by omega
     obtain rfl := x0c hu'
     obtain rfl := x0c hq'
     refine ⟨⟨w', i2, g, 0, 0, 0, u, qd, u, rfl, rfl, hD, hn2, by omega, hwv, hg32, hge, hgl, by omega, hwu, hlu, by omega, by omega, fun _ _ => rfl, by simp [P02, wval]⟩, ?_⟩
     clear G hge hgl gv1 gv2 hor hq0 h7 hXm hual hua hcmp hlo hX hvN hsh hblb hbltop Esh hv1 hv2 hu2 hu1 hu0 hW
     rintro _ V10 l10 ⟨w2, i9, g9, k, c0, b0, u9, qd9, u00, hc9, rfl, hT⟩
     simp only [D00.mk.injEq] at hc9
     obtain ⟨_, rfl, _, _, _, hi9, hgg⟩ := hc9
     obtain rfl : i2 = i9 := by omega
     obtain rfl : g = g9 := by omega
     have hjn := hT.jn
     have hkn := hT.i_le
     have hlu9 := hT.lu
     have hlq9 := hT.div.lq
     have hme : ((i2 : Int) - 1 + 1).toNat < (((i2 + 1 : Nat) : Int)).toNat := by omega
     simp only [M0r, Int.toNat_natCast]
     refine ⟨fun hp2 => ?_, fun hp2 => ?_⟩
     · simp only [decide_eq_true_eq] at hp2
       have hkn : k < n := by omega
       have K1 : i64.wrap ((k : Int) + i2) = ((i2 + k : Nat) : Int) := by rw [i64w (by omega) (by omega)]; omega
       simp only [K1, Int.toNat_natCast]
       have gk := (hw7.le (View.le_trans l8 l10)).get (i := (k : Nat)) (by omega) (by omega)
       simp only [Int.toNat_natCast, Nat.mul_one] at gk
       refine ⟨⟨by omega, by omega, hws⟩, _, gk, ⟨by omega, by omega⟩, _, U04 (by omega), ⟨by omega, by omega⟩, by rw [g00]; omega, ?_⟩
       obtain ⟨low, br, c, e1, e2, e3, hT'⟩ := hT.step hkn
       rw [e1, e2, e3, D02, i64w (n := (k : Int) + 1) (by omega) (by omega)]
       exact ⟨⟨w', i2, g, k + 1, c, br, _, qd9, u00, rfl, rfl, hT'⟩, by omega⟩
     simp only [decide_eq_false_iff_not] at hp2
     obtain rfl : n = k := by omega
     refine ⟨⟨by omega, by omega⟩, _, U04 (by omega), ⟨by omega, by omega⟩, by rw [g00]; omega, ?_⟩
     obtain ⟨low, br, e1, e2, hl', hb1, hb0⟩ := hT.last
     rw [e1, e2, D02]
     refine ⟨fun hn1 => ?_, fun hn1 => ?_⟩
     · -- one too many: it is added back
       obtain ⟨hB, hg0⟩ := hb1 (by have : (br : Int) = 1 := (by simpa using hn1); omega)
       rw [u64w (n := (g : Int) - 1) (by omega) (by omega), show (g : Int) - 1 = ((g - 1 : Nat) : Int) by omega]
       refine ⟨⟨w', i2, g, 0, 0, _, qd9, u00, _, rfl, rfl, hg0, hB⟩, ?_⟩
       clear hT hB hb1 hb0 hl' e1 e2
       rintro _ V11 l11 ⟨w3, i3, g3, k3, cr, u3, qd3, u03, l3, hc3, rfl, hg3, hB⟩
       simp only [E00.mk.injEq] at hc3
       obtain ⟨_, rfl, _, _, _, hi3, hg3'⟩ := hc3
       obtain rfl : i2 = i3 := by omega
       obtain rfl : g = g3 := by omega
       have hjn := hB.jn
       have hkn := hB.k_le
       have hlu3 := hB.lu
       have hlq3 := hB.div.lq
       simp only [Int.toNat_natCast]
       refine ⟨fun hp4 => ?_, fun hp4 => ?_⟩
       · simp only [decide_eq_true_eq] at hp4
         have hkn : k3 < n := by omega
         have K1 : i64.wrap ((k3 : Int) + i2) = ((i2 + k3 : Nat) : Int) := by rw [i64w (by omega) (by omega)]; omega
         simp only [K1, Int.toNat_natCast]
         have gk := (hw7.le (View.le_trans l8 (View.le_trans l10 l11))).get (i := (k3 : Nat)) (by omega) (by omega)
         simp only [Int.toNat_natCast, Nat.mul_one] at gk
         refine ⟨⟨by omega, by omega⟩, _, U04 (by omega), ⟨by omega, by omega, hws⟩, _, gk, ⟨by omega, by omega⟩, by rw [g00]; omega, ?_⟩
         obtain ⟨low, c, e1, e2, hB'⟩ := hB.step hkn
         rw [e1, e2, D02, i64w (n := (k3 : Int) + 1) (by omega) (by omega)]
         exact ⟨⟨w', i2, g, k3 + 1, c, _, qd3, u03, l3, rfl, rfl, hg3, hB'⟩, by omega⟩
       · simp only [decide_eq_false_iff_not] at hp4
         obtain rfl : n = k3 := by omega
         refine ⟨⟨by omega, by omega⟩, _, U04 (by omega), ⟨by omega, by omega⟩, by rw [g00]; omega, ⟨by omega, by omega⟩, by rw [g00]; omega, ?_⟩
         obtain ⟨low, e1, hD'⟩ := hB.last
         rw [u32w (n := ((g - 1 : Nat) : Int)) (by omega) (by omega), e1, D02, D02]
         exact ⟨⟨w', i2, _, _, rfl, hw7.le (View.le_trans l8 (View.le_trans l10 l11)), rfl, hD'⟩, hme⟩
     · -- the guess is right
       have hD' := hb0 (fun h => by rw [h] at hn1; simp at hn1)
       rw [u32w (n := (g : Int)) (by omega) (by omega), D02]
       exact ⟨⟨by omega, by omega⟩, by rw [g00]; omega, ⟨w', i2, _, _, rfl, hw7.le (View.le_trans l8 l10), rfl, hD'⟩, hme⟩
 · -- the end
   simp only [ge_iff_le, decide_eq_false_iff_not] at hp
   obtain rfl : j = 0 := by omega
   have heq := hD.eq
   have hlt0 := hD.lt
   rw [Nat.zero_add, Nat.pow_zero, Nat.one_mul, Nat.sub_zero] at heq
   obtain ⟨hq1, hr1⟩ := G0n hX hvN hb0 heq hlt0
   have hwq : z00 V12 (Sl.mk (some (Addr.mk b1 0 none)) (m - n) (m - n)) qd := z00.of_block hb1 (by omega) (Nat.le_refl _) hD.wq
   have hwr : z00 V13 (Sl.mk (some (Addr.mk b2 0 none)) m m) u := z00.of_block hb2 (by omega) (Nat.le_refl _) hwu
   refine ⟨⟨by omega, by omega, by omega⟩, (X01 (z00.le l13 hwq) (by omega)).mono fun v V14 l14 ⟨q, hv, hq⟩ => ⟨q, hv, ?_⟩⟩
   have hwr2 : z00 V14 (Sl.mk (some (Addr.mk b2 0 none)) n m) (u.take n) := z00.le l14 (z00.pre hwr (k := n) (c := m) (by omega) (by omega))
   have hl50 : (u.take n).length ≤ 2 ^ 50 := by rw [List.length_take]; omega
   have hz : Int.toNat 0 = 0 := rfl
   have hm0 : ¬ m = 0 := by omega
   have hadd : Option.map (fun q => Addr.add q 0) (some (Addr.mk b2 0 none)) = some (Addr.mk b2 0 none) := by simp [Addr.add]
   simp only [hz, hm0, if_false, Nat.zero_mul, hadd, Nat.sub_zero]
   have htr := X01 hwr2 hl50
   refine htr.mono fun v V15 l15 ⟨r, hv, hr⟩ => ⟨r, hv, ?_⟩
   rw [← K0h] at hr
   have hrw : wn (seg u 0 n) ≤ 2 ^ 44 := by
    have := M02 (Q07 hwu 0 n)
    omega
   refine (S0c hr hrw (by omega)).mono fun v V16 l16 ⟨r2, hv, hr2⟩ => ⟨r2, hv, q, r2, rfl, ?_, ?_⟩
   · rw [← hq1, q04 (by omega)]; exact hq.le (View.le_trans l15 l16)
   · rw [← hr1]; exact hr2

theorem U07 {V : View} {s t : Sl} {a b : Nat} (hs : e00 V s a) (ht : e00 V t b) (ha : wn a ≤ 2 ^ 43) (hb : wn b ≤ 2 ^ 43) :
 a00 prog b0h #[s.v, t.v] V fun v V' => ∃ r : Sl, v = r.v ∧ e00 V' r (Nat.gcd a b) := by
 refine Z0e s t V _ (fun _ x V' => ∃ a' b', e00 V' x.t0 a' ∧ e00 V' x.t1 b' ∧ wn a' ≤ 2 ^ 43 ∧ wn b' ≤ 2 ^ 43 ∧ Nat.gcd a' b' = Nat.gcd a b) (fun _ x V' => f0k V' x.t1) ⟨⟨a, b, hs, ht, ha, hb, rfl⟩, ?_⟩
 rintro ⟨x, y⟩ V1 l1 ⟨a', b', hx, hy, wa, wb, hg⟩
 simp only at hx hy ⊢
 have hyl := hy.len
 refine ⟨fun hp => ?_, fun hp => ?_⟩
 · simp only [gt_iff_lt, decide_eq_true_eq] at hp
   have hb0 : b' ≠ 0 := fun e => by rw [← hy.len_zero] at e; omega
   refine (n04 hx hy wa hb0).mono fun v V2 l2 ⟨q, r, hv, hq, hr⟩ => ⟨q, r, hv, ?_⟩
   have hlt : a' % b' < b' := Nat.mod_lt _ (by omega)
   have hwr : wn (a' % b') ≤ wn b' := K04 (Nat.le_of_lt hlt)
   refine ⟨⟨b', a' % b', hy.le l2, hr, wb, by omega, ?_⟩, ?_⟩
   · rw [Nat.gcd_comm, ← Nat.gcd_rec, Nat.gcd_comm]; exact hg
   · rw [g07 hr, g07 hy]; exact hlt
 · simp only [gt_iff_lt, decide_eq_false_iff_not] at hp
   have hb0 : b' = 0 := hy.len_zero.1 (by omega)
   subst hb0
   rw [Nat.gcd_zero_right] at hg
   exact ⟨x, rfl, by rw [← hg]; exact hx⟩
theorem u01 {V : View} {s : Sl} {n : Nat} (neg : Bool) (h : e00 V s n) :
 a00 prog Q05 #[.bool neg, s.v] V fun v V' => ∃ r : WhV, v = r.val ∧ W00 V' r (if neg = true then -(n : Int) else n) := by
 have hl := h.len_zero
 refine a0f neg s V _ ⟨fun hn => ⟨_, rfl, ?_, ?_⟩, fun hn => ⟨_, rfl, ?_, ?_⟩⟩
 · rw [if_pos hn]; simp only [gt_iff_lt, decide_eq_decide]; omega
 · rw [if_pos hn]; simpa using h
 · rw [if_neg (by simp [hn])]; symm; simp only [decide_eq_false_iff_not]; omega
 · rw [if_neg (by simp [hn])]; simpa using h
theorem P04 {V : View} {n : Int} (h0 : -9223372036854775808 ≤ n) (h1 : n ≤ 9223372036854775807) :
 a00 prog y0j #[.int .i64 n] V fun v V' => ∃ r : WhV, v = r.val ∧ W00 V' r n := by
 refine C0h n V _ ⟨fun hn => ?_, fun hn => ?_⟩
 · simp only [decide_eq_true_eq] at hn
   have e : u64.wrap (i64.wrap (0 - n)) = -n := by
    by_cases hm : n = -9223372036854775808
    · subst hm; decide
    · rw [i64w (by omega) (by omega), u64w (by omega) (by omega)]; omega
   rw [e]
   refine (D03 (by omega) (by omega)).mono fun v V1 _ ⟨r, hv, hr⟩ => ⟨r, hv, _, rfl, by simp [hn], ?_⟩
   have e2 : n.natAbs = (-n).toNat := by omega
   rw [e2]; exact hr
 · simp only [decide_eq_false_iff_not] at hn
   rw [u64w (by omega) (by omega)]
   refine (D03 (by omega) (by omega)).mono fun v V1 _ ⟨r, hv, hr⟩ => ⟨r, hv, _, rfl, by simp [hn], ?_⟩
   have e2 : n.natAbs = n.toNat := by omega
   rw [e2]; exact hr
theorem f03 {V : View} {x : WhV} {a : Int} (h : W00 V x a) :
 a00 prog a0h #[x.val] V fun v V' => ∃ r : WhV, v = r.val ∧ W00 V' r (-a) := by
 refine b0f x V _ ((u01 (!x.neg) h.2).mono fun v V1 _ ⟨r, hv, hr⟩ => ⟨r, hv, r, rfl, ?_⟩)
 have e : (if (!x.neg) = true then -(a.natAbs : Int) else (a.natAbs : Int)) = -a := by
  rw [h.1]; simp only [Bool.not_eq_true', decide_eq_false_iff_not]; split <;> omega
 rw [e] at hr; exact hr
theorem o04 {V : View} {x y : WhV} {a b : Int} (hx : W00 V x a) (hy : W00 V y b) (ha : wn a.natAbs ≤ 2 ^ 43) (hb : wn b.natAbs ≤ 2 ^ 43) :
 a00 prog e0h #[x.val, y.val] V fun v V' => ∃ r : WhV, v = r.val ∧ W00 V' r (a + b) := by
 have h1 := hx.1
 have h2 := hy.1
 refine e0f x y V _ ⟨fun hs => ?_, fun hs => ?_⟩
 · refine (Q0c hx.2 hy.2 (by omega) (by omega)).mono fun v V1 l1 ⟨r, hv, hr⟩ => ⟨r, hv, ?_⟩
   refine (u01 x.neg hr).mono fun v V2 _ ⟨w, hv, hw⟩ => ⟨w, hv, w, rfl, ?_⟩
   have e : (if x.neg = true then -((a.natAbs + b.natAbs : Nat) : Int) else ((a.natAbs + b.natAbs : Nat) : Int)) = a + b := by
    rw [h1, h2] at hs; rw [h1]
    by_cases p : a < 0 <;> by_cases q : b < 0 <;> simp [p, q] at hs ⊢ <;> omega
   rw [e] at hw; exact hw
 · refine (S07 hx.2 hy.2 (by omega)).mono fun v V1 l1 hv => ⟨_, hv, fun hc => ?_, fun hc => ?_⟩
   · have hc : b.natAbs ≤ a.natAbs := by
       rcases Nat.lt_or_ge a.natAbs b.natAbs with h | h
       · rw [if_pos h] at hc; simp at hc
       · exact h
     refine (T07 (hx.2.le l1) (hy.2.le l1) (by omega) hc).mono fun v V2 l2 ⟨r, hv, hr⟩ => ⟨r, hv, ?_⟩
     refine (u01 x.neg hr).mono fun v V3 _ ⟨w, hv, hw⟩ => ⟨w, hv, w, rfl, ?_⟩
     have e : (if x.neg = true then -((a.natAbs - b.natAbs : Nat) : Int) else ((a.natAbs - b.natAbs : Nat) : Int)) = a + b := by
      rw [h1, h2] at hs; rw [h1]
      by_cases p : a < 0 <;> by_cases q : b < 0 <;> simp [p, q] at hs ⊢ <;> omega
     rw [e] at hw; exact hw
   · have hc : a.natAbs ≤ b.natAbs := by
       rcases Nat.lt_or_ge b.natAbs a.natAbs with h | h
       · rw [if_neg (by omega), if_neg (by omega)] at hc; simp at hc
       · exact h
     refine (T07 (hy.2.le l1) (hx.2.le l1) (by omega) hc).mono fun v V2 l2 ⟨r, hv, hr⟩ => ⟨r, hv, ?_⟩
     refine (u01 y.neg hr).mono fun v V3 _ ⟨w, hv, hw⟩ => ⟨w, hv, w, rfl, ?_⟩
     have e : (if y.neg = true then -((b.natAbs - a.natAbs : Nat) : Int) else ((b.natAbs - a.natAbs : Nat) : Int)) = a + b := by
      rw [h1, h2] at hs; rw [h2]
      by_cases p : a < 0 <;> by_cases q : b < 0 <;> simp [p, q] at hs ⊢ <;> omega
     rw [e] at hw; exact hw
theorem T0c {V : View} {x y : WhV} {a b : Int} (hx : W00 V x a) (hy : W00 V y b) (ha : wn a.natAbs ≤ 2 ^ 43) (hb : wn b.natAbs ≤ 2 ^ 43) :
 a00 prog i0h #[x.val, y.val] V fun v V' => ∃ r : WhV, v = r.val ∧ W00 V' r (a - b) := by
 refine c0f x y V _ ((f03 hy).mono fun v V1 l1 ⟨r, hv, hr⟩ => ⟨r, hv, ?_⟩)
 rw [Int.sub_eq_add_neg]
 exact (o04 (hx.le l1) hr ha (by rw [Int.natAbs_neg]; exact hb)).mono fun v V2 _ ⟨w, hv, hw⟩ => ⟨w, hv, w, rfl, hw⟩
theorem N01 {V : View} {x y : WhV} {a b : Int} (hx : W00 V x a) (hy : W00 V y b) (ha : wn a.natAbs ≤ 2 ^ 43) (hb : wn b.natAbs ≤ 2 ^ 43) :
 a00 prog f0h #[x.val, y.val] V fun v V' => ∃ r : WhV, v = r.val ∧ W00 V' r (a * b) := by
 refine d0f x y V _ ((L05 hx.2 hy.2 (by omega) (by omega)).mono fun v V1 l1 ⟨r, hv, hr⟩ => ⟨r, hv, ?_⟩)
 refine (u01 (!(x.neg == y.neg)) hr).mono fun v V2 _ ⟨w, hv, hw⟩ => ⟨w, hv, w, rfl, ?_⟩
 have e : (if (!(x.neg == y.neg)) = true then -((a.natAbs * b.natAbs : Nat) : Int) else ((a.natAbs * b.natAbs : Nat) : Int)) = a * b := by
  rw [H0n _ _ a b rfl rfl, hx.1, hy.1]
  by_cases p : a < 0 <;> by_cases q : b < 0 <;> simp [p, q]
 rw [e] at hw; exact hw
theorem e00.lit {V : View} {b n : Nat} (h : V b = some #[.int .u32 (n : Int)]) (h0 : n ≠ 0) (h1 : n < 4294967296) : e00 V (Sl.mk (some (Addr.mk b 0 none)) 1 1) n := by
 have e : dig n = [n] := by
  have h2 : n / 4294967296 = 0 := Nat.div_eq_of_lt h1
  rw [Z02 h0, h2, b02, Nat.mod_eq_of_lt h1]
 unfold e00
 rw [e]
 exact z00.of_block (by rw [h]; rfl) rfl (Nat.le_refl _) (by intro d hd; simp at hd; omega)
theorem p0s : dig 1 = [1] := by rw [Z02 (by omega)]; simp [b02]
theorem W00.ofNat {V : View} {s : Sl} {n : Nat} (h : e00 V s n) : W00 V (WhV.mk false s) (n : Int) := ⟨by simp, h⟩
theorem g04 {V : View} {x y : WhV} {s : Sl} {z : Cq} {a b : Int} {d : Nat} (hx : W00 V x a) (hy : W00 V y b) (hs : e00 V s d) (hz : Rep z a b d) (ha : wn a.natAbs ≤ 2 ^ 43) (hb : wn b.natAbs ≤ 2 ^ 43) (hd : wn d ≤ 2 ^ 43) :
 a00 prog D0d #[x.val, y.val, s.v] V fun v V' => ∃ r : NumV, v = r.val ∧ QAt V' r z := by
 obtain ⟨e1, e2, e3⟩ := hz.eqs
 have hp := O0h a b hz.pos
 have d1 := G0a a b d
 have d2 := H0a a b d
 have d3 := S0d a b d
 refine c0k x y s V _ ((U07 hx.2 hy.2 ha hb).mono fun v V1 l1 ⟨r1, hv, h1⟩ => ⟨r1, hv, ?_⟩)
 have hw1 : wn (Nat.gcd a.natAbs b.natAbs) ≤ 2 ^ 43 := by
  rcases Nat.eq_zero_or_pos a.natAbs with h | h
  · rw [h, Nat.gcd_zero_left]; exact hb
  · exact Nat.le_trans (K04 (Nat.le_of_dvd h (Nat.gcd_dvd_left _ _))) ha
 refine (U07 h1 (hs.le l1) hw1 hd).mono fun v V2 l2 ⟨r2, hv, h2⟩ => ⟨r2, hv, ?_⟩
 have hg : Nat.gcd (Nat.gcd a.natAbs b.natAbs) d = gcd3 a b d := rfl
 rw [hg] at h2
 have l02 := View.le_trans l1 l2
 have h2l := h2.len
 have many : gcd3 a b d ≠ 1 → a00 prog S05 #[x.mag.v, r2.v] V2 fun v V8 => ∃ (r11 : Sl) (r12 : Sl), v = .tuple #[r11.v, r12.v] ∧
  a00 prog S05 #[y.mag.v, r2.v] V8 fun v V9 => ∃ (r13 : Sl) (r14 : Sl), v = .tuple #[r13.v, r14.v] ∧
  a00 prog S05 #[s.v, r2.v] V9 fun v V10 => ∃ (r15 : Sl) (r16 : Sl), v = .tuple #[r15.v, r16.v] ∧
  a00 prog Q05 #[.bool x.neg, r11.v] V10 fun v V11 => ∃ r17 : WhV, v = r17.val ∧
  a00 prog Q05 #[.bool y.neg, r13.v] V11 fun v V12 => ∃ r18 : WhV, v = r18.val ∧ ∃ r : NumV, (NumV.mk r17 r18 r15).val = r.val ∧ QAt V12 r z := by
  intro _
  refine (n04 (hx.2.le l02) h2 ha (by omega)).mono fun v V4 l4 ⟨q1, m1, hv, hq1, _⟩ => ⟨q1, m1, hv, ?_⟩
  refine (n04 (hy.2.le (View.le_trans l02 l4)) (h2.le l4) hb (by omega)).mono fun v V5 l5 ⟨q2, m2, hv, hq2, _⟩ => ⟨q2, m2, hv, ?_⟩
  have l45 := View.le_trans l4 l5
  refine (n04 (hs.le (View.le_trans l02 l45)) (h2.le l45) hd (by omega)).mono fun v V6 l6 ⟨q3, m3, hv, hq3, _⟩ => ⟨q3, m3, hv, ?_⟩
  refine (u01 x.neg (hq1.le (View.le_trans l5 l6))).mono fun v V7 l7 ⟨w1, hv, hw1⟩ => ⟨w1, hv, ?_⟩
  refine (u01 y.neg (hq2.le (View.le_trans l6 l7))).mono fun v V8 l8 ⟨w2, hv, hw2⟩ => ⟨w2, hv, _, rfl, ?_, ?_, ?_⟩
  · rw [e1]
    have e : (if x.neg = true then -((a.natAbs / gcd3 a b d : Nat) : Int) else ((a.natAbs / gcd3 a b d : Nat) : Int)) = a / (gcd3 a b d : Nat) := by
     have k1 := x04 d1
     have k2 := A07 d1 hp
     rw [← k1, hx.1]
     have k3 : (a / (gcd3 a b d : Nat) < 0) ↔ a < 0 := by simpa using k2
     simp only [decide_eq_true_eq]
     split <;> omega
    rw [e] at hw1; exact hw1.le l8
  · rw [e2]
    have e : (if y.neg = true then -((b.natAbs / gcd3 a b d : Nat) : Int) else ((b.natAbs / gcd3 a b d : Nat) : Int)) = b / (gcd3 a b d : Nat) := by
     have k1 := x04 d2
     have k2 := A07 d2 hp
     rw [← k1, hy.1]
     have k3 : (b / (gcd3 a b d : Nat) < 0) ↔ b < 0 := by simpa using k2
     simp only [decide_eq_true_eq]
     split <;> omega
    rw [e] at hw2; exact hw2
  · rw [e3]; exact hq3.le (View.le_trans l7 l8)
 refine ⟨fun hn => ?_, fun hn => ⟨fun h => absurd h (by simp), fun _ => ?_⟩⟩
 · have hn : r2.len = 1 := by have : (r2.len : Int) = 1 := (by simpa using hn); omega
   refine ⟨⟨by omega, by omega, h2.isSome (by omega)⟩, _, h2.get (by omega) (by omega), fun hw => ?_, fun hw => ?_⟩
   · have hw : (dig (gcd3 a b d)).getD 0 0 = 1 := by have : (((dig (gcd3 a b d)).getD 0 0 : Nat) : Int) = 1 := of_decide_eq_true (by rw [← hw]; rfl); omega
     have hg1 : gcd3 a b d = 1 := by
      rw [hn] at h2l
      have h3 := n00 (gcd3 a b d)
      obtain ⟨w, hw'⟩ : ∃ w, dig (gcd3 a b d) = [w] := List.length_eq_one_iff.1 h2l.symm
      rw [hw'] at hw h3
      simp [wval] at hw h3
      omega
     rw [hg1] at e1 e2 e3
     simp only [Int.natCast_one, Int.ediv_one] at e1 e2
     rw [Nat.div_one] at e3
     exact ⟨_, rfl, by rw [e1]; exact hx.le l02, by rw [e2]; exact hy.le l02, by rw [e3]; exact hs.le l02⟩
   · refine many fun h => ?_
     rw [h, p0s] at hw; simp at hw
 · refine many fun h => ?_
   rw [h, p0s] at h2l
   rw [h2l] at hn; simp at hn
theorem J08 {V : View} {n : Int} (h0 : -9223372036854775808 ≤ n) (h1 : n ≤ 9223372036854775807) :
 a00 prog g0c #[.int .i64 n] V fun v V' => ∃ r : NumV, v = r.val ∧ QAt V' r ⟨(n : Rat), 0⟩ := by
 obtain ⟨e1, e2, e3⟩ := G05 n
 refine D0h n V _ ((P04 h0 h1).mono fun v V1 _ ⟨r, hv, hr⟩ => ⟨r, hv, fun b V2 l2 _ hb => ⟨_, rfl, by rw [e1]; exact hr.le l2, by rw [e2]; exact W00.zero _, by rw [e3]; exact e00.lit hb (by omega) (by omega)⟩⟩)
theorem n0b {V : View} {p q d : Int} (p0 : -9223372036854775808 ≤ p) (p1 : p ≤ 9223372036854775807) (q0 : -9223372036854775808 ≤ q) (q1 : q ≤ 9223372036854775807) (d0 : -9223372036854775808 ≤ d) (d1 : d ≤ 9223372036854775807) (hd : d ≠ 0) :
 a00 prog z0o #[.int .i64 p, .int .i64 q, .int .i64 d] V fun v V' => ∃ r : NumV, v = .tuple #[r.val, .int .i64 0] ∧ QAt V' r ⟨(p : Rat) / (d : Rat), (q : Rat) / (d : Rat)⟩ := by
 refine e0m p q d V _ ⟨fun h => ?_, fun _ => ?_⟩
 · exact absurd (by simpa using h) hd
 refine (P04 d0 d1).mono fun v V1 l1 ⟨c, hv, hc⟩ => ⟨c, hv, ?_⟩
 refine (P04 p0 p1).mono fun v V2 l2 ⟨a, hv, ha⟩ => ⟨a, hv, ?_⟩
 refine (P04 q0 q1).mono fun v V3 l3 ⟨b, hv, hb⟩ => ⟨b, hv, fun hn => ?_, fun hn => ?_⟩
 · have hneg : d < 0 := by have := hc.1; rw [hn] at this; simpa using this.symm
   refine (f03 (ha.le l3)).mono fun v V4 l4 ⟨a', hv, ha'⟩ => ⟨a', hv, ?_⟩
   refine (f03 (hb.le l4)).mono fun v V5 l5 ⟨b', hv, hb'⟩ => ⟨b', hv, ?_⟩
   refine (g04 (ha'.le l5) hb' (hc.2.le (View.le_trans l2 (View.le_trans l3 (View.le_trans l4 l5)))) ?_ (wn64 (by omega)) (wn64 (by omega)) (wn64 (by omega))).mono fun v V6 l6 ⟨r, hv, hr⟩ => ⟨r, hv, r, rfl, hr⟩
   have e : ((d.natAbs : Nat) : Rat) = -(d : Rat) := by
    have : (d.natAbs : Int) = -d := by omega
    rw [← Rat.intCast_natCast, this]; push_cast; rfl
   refine ⟨by omega, ?_, ?_⟩ <;> (simp only [e]; push_cast; rw [Rat.div_def, Rat.div_def]; grind)
 · have hpos : ¬ d < 0 := by have := hc.1; rw [hn] at this; simpa using this.symm
   refine (g04 (ha.le l3) hb (hc.2.le (View.le_trans l2 l3)) ?_ (wn64 (by omega)) (wn64 (by omega)) (wn64 (by omega))).mono fun v V6 l6 ⟨r, hv, hr⟩ => ⟨r, hv, r, rfl, hr⟩
   have e : ((d.natAbs : Nat) : Rat) = (d : Rat) := by
    have : (d.natAbs : Int) = d := by omega
    rw [← Rat.intCast_natCast, this]
   refine ⟨by omega, ?_, ?_⟩ <;> simp only [e]
theorem o0b {V : View} {x y : NumV} {z w : Cq} (hx : QAt V x z) (hy : QAt V y w) (hz : z.sz ≤ 2 ^ 40) (hw : w.sz ≤ 2 ^ 40) :
 a00 prog I0o #[x.val, y.val] V fun v V' => ∃ r : NumV, v = r.val ∧ QAt V' r (z + w) := by
 have zA := Cq.wA hz; have zB := Cq.wB hz; have zD := Cq.wD hz
 have wA := Cq.wA hw; have wB := Cq.wB hw; have wD := Cq.wD hw
 have zD' : wn (z.D : Int).natAbs ≤ 2 ^ 35 := zD
 have wD' : wn (w.D : Int).natAbs ≤ 2 ^ 35 := wD
 have s1 := O01 zA wD'; have s2 := O01 wA zD'; have s3 := O01 zB wD'; have s4 := O01 wB zD'
 have s5 := O06 s1 s2; have s6 := O06 s3 s4
 have s7 := C05 z.D w.D
 refine f0m x y V _ ((N01 hx.re (W00.ofNat hy.under) (by omega) (by omega)).mono fun v V1 l1 ⟨r1, hv, h1⟩ => ⟨r1, hv, ?_⟩)
 replace hx := hx.le l1; replace hy := hy.le l1
 refine (N01 hy.re (W00.ofNat hx.under) (by omega) (by omega)).mono fun v V2 l2 ⟨r2, hv, h2⟩ => ⟨r2, hv, ?_⟩
 replace hx := hx.le l2; replace hy := hy.le l2; replace h1 := h1.le l2
 refine (o04 h1 h2 (by omega) (by omega)).mono fun v V3 l3 ⟨r3, hv, h3⟩ => ⟨r3, hv, ?_⟩
 replace hx := hx.le l3; replace hy := hy.le l3
 refine (N01 hx.im (W00.ofNat hy.under) (by omega) (by omega)).mono fun v V4 l4 ⟨r4, hv, h4⟩ => ⟨r4, hv, ?_⟩
 replace hx := hx.le l4; replace hy := hy.le l4; replace h3 := h3.le l4
 refine (N01 hy.im (W00.ofNat hx.under) (by omega) (by omega)).mono fun v V5 l5 ⟨r5, hv, h5⟩ => ⟨r5, hv, ?_⟩
 replace hx := hx.le l5; replace hy := hy.le l5; replace h3 := h3.le l5; replace h4 := h4.le l5
 refine (o04 h4 h5 (by omega) (by omega)).mono fun v V6 l6 ⟨r6, hv, h6⟩ => ⟨r6, hv, ?_⟩
 replace hx := hx.le l6; replace hy := hy.le l6; replace h3 := h3.le l6
 refine (L05 hx.under hy.under (by omega) (by omega)).mono fun v V7 l7 ⟨r7, hv, h7⟩ => ⟨r7, hv, ?_⟩
 exact (g04 (h3.le l7) (h6.le l7) h7 (z.canon.rep.add w.canon.rep) (by omega) (by omega) (by omega)).mono fun v V10 _ ⟨r, hv, hr⟩ => ⟨r, hv, r, rfl, hr⟩
theorem y0i {V : View} {x : NumV} {z : Cq} (hx : QAt V x z) : a00 prog G0o #[x.val] V fun v V' => ∃ r : NumV, v = r.val ∧ QAt V' r (-z) := by
 obtain ⟨e1, e2, e3⟩ := z.neg_eqs
 refine i0m x V _ ((f03 hx.re).mono fun v V1 l1 ⟨r1, hv, h1⟩ => ⟨r1, hv, ?_⟩)
 exact (f03 (hx.im.le l1)).mono fun v V2 l2 ⟨r2, hv, h2⟩ => ⟨r2, hv, _, rfl, by rw [e1]; exact h1.le l2, by rw [e2]; exact h2, by rw [e3]; exact hx.under.le (View.le_trans l1 l2)⟩
theorem z0i {V : View} {x y : NumV} {z w : Cq} (hx : QAt V x z) (hy : QAt V y w) (hz : z.sz ≤ 2 ^ 40) (hw : w.sz ≤ 2 ^ 40) :
 a00 prog L0o #[x.val, y.val] V fun v V' => ∃ r : NumV, v = r.val ∧ QAt V' r (z - w) := by
 refine j0m x y V _ ((y0i hy).mono fun v V1 l1 ⟨r1, hv, h1⟩ => ⟨r1, hv, ?_⟩)
 rw [Cq.sub_eq]
 exact (o0b (hx.le l1) h1 hz (by rw [L08]; exact hw)).mono fun v V2 _ ⟨r, hv, hr⟩ => ⟨r, hv, r, rfl, hr⟩
theorem A0i {V : View} {x y : NumV} {z w : Cq} (hx : QAt V x z) (hy : QAt V y w) (hz : z.sz ≤ 2 ^ 40) (hw : w.sz ≤ 2 ^ 40) :
 a00 prog K0o #[x.val, y.val] V fun v V' => ∃ r : NumV, v = r.val ∧ QAt V' r (z * w) := by
 have zA := Cq.wA hz; have zB := Cq.wB hz; have zD := Cq.wD hz
 have wA := Cq.wA hw; have wB := Cq.wB hw; have wD := Cq.wD hw
 have s1 := O01 zA wA; have s2 := O01 zB wB; have s2' := N0r s2; have s3 := O01 zA wB; have s4 := O01 zB wA
 have s5 := O06 s1 s2'; have s6 := O06 s3 s4
 rw [← Int.sub_eq_add_neg] at s5
 have s7 := C05 z.D w.D
 refine g0m x y V _ ((N01 hx.re hy.re (by omega) (by omega)).mono fun v V1 l1 ⟨r1, hv, h1⟩ => ⟨r1, hv, ?_⟩)
 replace hx := hx.le l1; replace hy := hy.le l1
 refine (N01 hx.im hy.im (by omega) (by omega)).mono fun v V2 l2 ⟨r2, hv, h2⟩ => ⟨r2, hv, ?_⟩
 replace hx := hx.le l2; replace hy := hy.le l2; replace h1 := h1.le l2
 refine (T0c h1 h2 (by omega) (by omega)).mono fun v V4 l4 ⟨r4, hv, h4⟩ => ⟨r4, hv, ?_⟩
 replace hx := hx.le l4; replace hy := hy.le l4
 refine (N01 hx.re hy.im (by omega) (by omega)).mono fun v V5 l5 ⟨r5, hv, h5⟩ => ⟨r5, hv, ?_⟩
 replace hx := hx.le l5; replace hy := hy.le l5; replace h4 := h4.le l5
 refine (N01 hx.im hy.re (by omega) (by omega)).mono fun v V6 l6 ⟨r6, hv, h6⟩ => ⟨r6, hv, ?_⟩
 replace hx := hx.le l6; replace hy := hy.le l6; replace h4 := h4.le l6; replace h5 := h5.le l6
 refine (o04 h5 h6 (by omega) (by omega)).mono fun v V7 l7 ⟨r7, hv, h7⟩ => ⟨r7, hv, ?_⟩
 replace hx := hx.le l7; replace hy := hy.le l7; replace h4 := h4.le l7
 refine (L05 hx.under hy.under (by omega) (by omega)).mono fun v V10 l10 ⟨r10, hv, h10⟩ => ⟨r10, hv, ?_⟩
 exact (g04 (h4.le l10) (h7.le l10) h10 (z.canon.rep.mul w.canon.rep) (by omega) (by omega) (by omega)).mono fun v V11 _ ⟨r, hv, hr⟩ => ⟨r, hv, r, rfl, hr⟩

structure BqAt (V : View) (b : BdV) (e : Eb) : Prop where
 inf : b.inf = e.inf
 num : QAt V b.x e.num
 ok : e.ok
theorem BqAt.le {V V' : View} {b : BdV} {e : Eb} (hle : V.le V') (h : BqAt V b e) : BqAt V' b e := ⟨h.inf, h.num.le hle, h.ok⟩
theorem K06 (a b : Rat) : (⟨a, 0⟩ : Cq) * ⟨b, 0⟩ = ⟨a * b, 0⟩ := Cq.ext' (by rw [g03]; grind) (by rw [E03]; grind)
theorem B0i (a b : Rat) : (⟨a, 0⟩ : Cq) + ⟨b, 0⟩ = ⟨a + b, 0⟩ := Cq.ext' (by rw [Q04]) (by rw [S04]; grind)
theorem p0b (a b : Rat) : (⟨a, 0⟩ : Cq) - ⟨b, 0⟩ = ⟨a - b, 0⟩ := Cq.ext' (by rw [y0e]) (by rw [z0e]; grind)
theorem BqAt.zero {V : View} {r : NumV} (h : QAt V r ⟨((0 : Int) : Rat), 0⟩) {i : Int} (hi : (⟨i, 0⟩ : Eb).ok) : BqAt V (BdV.mk i r) ⟨i, 0⟩ := ⟨rfl, by rw [Rat.intCast_zero] at h; exact h, hi⟩

theorem W07 {V : View} {x : Nat} (h : x < 2 ^ 64) : a00 prog c0h #[.float .f64 x] V fun v _ => v = .bool (decide (x % 2 ^ 63 < infR)) := by
 refine X0e x V _ ⟨x, X05 x, ?_⟩
 have hp52 : (2 : Int) ^ (min (Int.toNat 52) u64.bits) = ((2 ^ 52 : Nat) : Int) := by decide
 have e := b0b (x := x / 2 ^ 52) (m := 2047) (by omega) (by omega)
 have e1 : x / 2 ^ 52 &&& 2047 = fld x := Nat.and_two_pow_sub_one_eq_mod (x / 2 ^ 52) 11
 rw [e1] at e
 rw [hp52, c0b]
 rw [show (((2047 : Nat)) : Int) = 2047 from rfl] at e
 rw [e]
 congr 1
 have hf : fld x = 2047 ↔ ¬ x % 2 ^ 63 < infR := by unfold fld infR; omega
 by_cases c : fld x = 2047
 · have := hf.1 c
   rw [c, decide_eq_false this]; rfl
 · have h2 : x % 2 ^ 63 < infR := Classical.byContradiction fun g => c (hf.2 g)
   rw [decide_eq_true h2]
   have : ((fld x : Nat) : Int) ≠ 2047 := by omega
   simp [this]

theorem q0s (x m k : Nat) : (if decide (sgI x m < 0) = true then -((m * 2 ^ k : Nat) : Int) else ((m * 2 ^ k : Nat) : Int)) = sgI x (m * 2 ^ k) := by
 by_cases z : m = 0
 · subst z; rw [Nat.zero_mul]; unfold sgI; split <;> split <;> rfl
 · have hp : 0 < 2 ^ k := Nat.pow_pos (by omega)
   have : 0 < m * 2 ^ k := Nat.mul_pos (by omega) hp
   unfold sgI
   by_cases c : 2 ^ 63 ≤ x
   · rw [if_pos c, if_pos c, if_pos (by rw [decide_eq_true_iff]; omega)]
   · rw [if_neg c, if_neg c, if_neg (by rw [decide_eq_true_iff]; omega)]
theorem U0c {V : View} {x : Nat} (h : finW x) : a00 prog d0h #[.float .f64 x] V fun v V' => ∃ r : NumV, v = r.val ∧ QAt V' r ⟨fq x, 0⟩ := by
 have h64 := h.1
 have hfl : fld x < 2048 := by unfold fld; omega
 have hu := Y0b x
 have hml := g0e x
 have hp52 : (2 : Int) ^ (min (Int.toNat 52) u64.bits) = ((2 ^ 52 : Nat) : Int) := by decide
 have hp63 : (2 : Int) ^ (min (Int.toNat 63) u64.bits) = ((2 ^ 63 : Nat) : Int) := by decide
 have e1 : i64.wrap (u64.wrap (BitVec.toNat ((BitVec.ofInt u64.bits (Int.fdiv (x : Int) (2 ^ (min (Int.toNat 52) (u64.bits))))) &&& (BitVec.ofInt u64.bits 2047)))) = (fld x : Int) := by
  have := b0b (x := x / 2 ^ 52) (m := 2047) (by omega) (by omega)
  have e : x / 2 ^ 52 &&& 2047 = fld x := Nat.and_two_pow_sub_one_eq_mod (x / 2 ^ 52) 11
  rw [e] at this
  rw [hp52, c0b]
  rw [show (((2047 : Nat)) : Int) = 2047 from rfl] at this
  rw [this, i64w (by omega) (by omega)]
 have e2 : u64.wrap (BitVec.toNat ((BitVec.ofInt u64.bits (x : Int)) &&& (BitVec.ofInt u64.bits 4503599627370495))) = ((x % 2 ^ 52 : Nat) : Int) := by
  have := b0b (x := x) (m := 4503599627370495) (by omega) (by omega)
  have e : x &&& 4503599627370495 = x % 2 ^ 52 := Nat.and_two_pow_sub_one_eq_mod x 52
  rw [e] at this
  exact this
 have e3 : ((Int.fdiv (x : Int) (2 ^ (min (Int.toNat 63) (u64.bits))) : Int) == 1) = decide (2 ^ 63 ≤ x) := by
  rw [hp63, c0b]
  by_cases c : 2 ^ 63 ≤ x
  · have : x / 2 ^ 63 = 1 := by omega
    rw [this, decide_eq_true c]; rfl
  · have : x / 2 ^ 63 = 0 := by omega
    rw [this, decide_eq_false c]; rfl
 refine Y0e x V _ ⟨x, X05 x, ?_⟩
 rw [e1, e2, e3]
 have hw : ∀ {V1 : View} {s : Sl} {n : Nat}, e00 V1 s n → n = mant x → a00 prog Q05 #[.bool (decide (2 ^ 63 ≤ x)), s.v] V1 fun v V' => ∃ r : WhV, v = r.val ∧ W00 V' r (sgI x (mant x)) := by
  intro V1 s n hs hn
  refine (u01 (decide (2 ^ 63 ≤ x)) hs).mono fun v V2 _ ⟨r, hv, hr⟩ => ⟨r, hv, ?_⟩
  subst hn
  unfold sgI
  by_cases c : 2 ^ 63 ≤ x
  · rw [decide_eq_true c] at hr; rw [if_pos c]; simpa using hr
  · rw [decide_eq_false c] at hr; rw [if_neg c]; simpa using hr
 -- below the c04 of the ones
 have low : ∀ {V : View} {r2 : WhV} {k : Nat}, W00 V r2 (sgI x (mant x)) → (k : Int) = 1075 - (up1 x : Int) → ∀ (b2 : Nat) (V6 : View), View.le V V6 → View.Fin V6 → V6 b2 = some #[.int .u32 1] →
  a00 prog t0a #[(Sl.mk (some (Addr.mk b2 0 none)) 1 1).v, .int .i64 (k : Int)] V6 fun v V7 => ∃ r5 : Sl, v = r5.v ∧ a00 prog D0d #[r2.val, (WhV.mk false (Sl.mk none 0 0)).val, r5.v] V7 fun v V8 => ∃ r6 : NumV, v = r6.val ∧ ∃ r : NumV, r6.val = r.val ∧ QAt V8 r ⟨fq x, 0⟩ := by
  intro V r2 k hr hk b2 V6 l6 _ hb2
  refine (m04 (n := k) (e00.lit (n := 1) hb2 (by omega) (by omega)) (Nat.le_trans a0s (by decide)) (by omega)).mono fun v V7 l7 ⟨r5, hv, h5⟩ => ⟨r5, hv, ?_⟩
  rw [Nat.one_mul] at h5
  have R : Rep ⟨fq x, 0⟩ (sgI x (mant x)) 0 (2 ^ k) := by
   refine ⟨t0n k, ?_, E08 _⟩
   have := o0i (x := x) (k := k) (n := 0) h64 (by omega)
   rw [Nat.pow_zero, Nat.mul_one] at this
   exact this
  have b2k := L03 k
  refine (g04 (hr.le (View.le_trans l6 l7)) (W00.zero V7) h5 R ?_ (by rw [Int.natAbs_zero, J04]; omega) (s04 (by omega))).mono fun v V8 _ ⟨r6, hv, h6⟩ => ⟨r6, hv, r6, rfl, h6⟩
  rw [i0e]; exact wn64 (by omega)
 refine ⟨fun hc => ?_, fun hc => ?_⟩
 · have hc : ((fld x : Nat) : Int) = 0 := by simpa using hc
   have hf0 : fld x = 0 := by omega
   have em : x % 2 ^ 52 = mant x := by unfold mant; rw [if_pos hf0]
   have eu : up1 x = 1 := by unfold up1; rw [if_pos hf0]
   rw [em]
   refine (D03 (n := ((mant x : Nat) : Int)) (by omega) (by omega)).mono fun v V1 _ ⟨s, hv, hs⟩ => ⟨s, hv, ?_⟩
   refine (hw hs (by omega)).mono fun v V2 _ ⟨r, hv, hr⟩ => ⟨r, hv, fun g => absurd g (by decide), fun _ => ?_⟩
   have w : i64.wrap (1075 - 1) = ((1074 : Nat) : Int) := by decide
   rw [w]
   exact low (k := 1074) hr (by omega)
 · have hf0 : fld x ≠ 0 := fun e => by rw [e] at hc; simp at hc
   have eu : up1 x = fld x := by unfold up1; rw [if_neg hf0]
   have e4 : u64.wrap (BitVec.toNat ((BitVec.ofInt u64.bits ((x % 2 ^ 52 : Nat) : Int)) ||| (BitVec.ofInt u64.bits 4503599627370496))) = ((mant x : Nat) : Int) := by
    have := I0n (x := x % 2 ^ 52) (m := 4503599627370496) (by omega) (by omega)
    have hor := Nat.two_pow_add_eq_or_of_lt (i := 52) (b := x % 2 ^ 52) (by omega) 1
    have e : x % 2 ^ 52 ||| 4503599627370496 = mant x := by
     rw [Nat.or_comm]
     have h1 : 2 ^ 52 * 1 = 4503599627370496 := by decide
     rw [h1] at hor
     rw [← hor]; unfold mant; rw [if_neg (by omega)]; omega
    rw [e] at this
    exact this
   rw [e4]
   refine (D03 (n := ((mant x : Nat) : Int)) (by omega) (by omega)).mono fun v V1 _ ⟨s, hv, hs⟩ => ⟨s, hv, ?_⟩
   refine (hw hs (by omega)).mono fun v V2 _ ⟨r, hv, hr⟩ => ⟨r, hv, fun hg => ?_, fun hg => ?_⟩
   · have hg : ((fld x : Nat) : Int) ≥ 1075 := by simpa using hg
     obtain ⟨k, hk⟩ : ∃ k : Nat, fld x = 1075 + k := ⟨fld x - 1075, by omega⟩
     have w : i64.wrap (((fld x : Nat) : Int) - 1075) = (k : Int) := by rw [i64w (by omega) (by omega)]; omega
     rw [w]
     have hr2 := hr.2
     rw [i0e] at hr2
     refine (m04 (n := k) hr2 (Nat.le_trans (wn64 (by omega)) (by decide)) (by omega)).mono fun v V3 l3 ⟨r3, hv, h3⟩ => ⟨r3, hv, ?_⟩
     refine (u01 r.neg h3).mono fun v V4 l4 ⟨r4, hv, h4⟩ => ⟨r4, hv, fun b V5 l5 _ hb => ⟨_, rfl, ?_⟩⟩
     rw [hr.1, q0s] at h4
     have e5 : fq x = ((sgI x (mant x * 2 ^ k) : Int) : Rat) := by
      have := o0i (x := x) (k := 0) (n := k) h64 (by omega)
      rw [this, Nat.pow_zero, Rat.div_def]
      have : ((1 : Nat) : Rat)⁻¹ = 1 := by decide +kernel
      rw [this, Rat.mul_one]
     have q := G05 (sgI x (mant x * 2 ^ k))
     rw [← e5] at q
     exact ⟨by rw [q.1]; exact h4.le l5, by rw [q.2.1]; exact W00.zero _, by rw [q.2.2]; exact e00.lit (n := 1) hb (by omega) (by omega)⟩
   · have hg : ¬ ((fld x : Nat) : Int) ≥ 1075 := by simpa using hg
     obtain ⟨k, hk⟩ : ∃ k : Nat, (k : Int) = 1075 - (fld x : Int) := ⟨1075 - fld x, by omega⟩
     have w : i64.wrap (1075 - ((fld x : Nat) : Int)) = (k : Int) := by rw [i64w (by omega) (by omega)]; omega
     rw [w]
     exact low hr (by omega)
theorem p0e {V : View} {x : Nat} (h : finW x) : a00 prog i0c #[.float .f64 x] V fun v V' => ∃ r : NumV, v = .tuple #[r.val, .int .i64 0] ∧ QAt V' r ⟨fq x, 0⟩ := by
 refine C0a x V _ ((W07 h.1).mono fun v V1 _ hv => ⟨_, hv, fun hc => ?_, fun _ => ?_⟩)
 · rw [decide_eq_true h.2] at hc; exact absurd hc (by decide)
 · exact (U0c h).mono fun v V2 _ ⟨r, hv, hr⟩ => ⟨r, hv, r, rfl, hr⟩
def bqC (V : View) (x : List Value) (e : Eb) : Prop := ∃ b : BdV, x = b.val.cells.toList ∧ BqAt V b e
theorem bqC.le {V V' : View} (hle : V.le V') (x : List Value) (e : Eb) (h : bqC V x e) : bqC V' x e := by
 obtain ⟨b, e1, hb⟩ := h; exact ⟨b, e1, hb.le hle⟩
def U0u (V : View) (s : Sl) (es : List Eb) : Prop := E02 6 bqC V s es
theorem U0u.le {V V' : View} (hle : V.le V') {s : Sl} {es : List Eb} (h : U0u V s es) : U0u V' s es := E02.le (bqC.le hle) hle h

theorem q0b {k : Int} (h : inK k) : (endE k).num.sz ≤ 2 ^ 12 := Nat.le_trans (Z09 h) (by omega)
theorem I09 {V : View} {a : BdV} {e : Eb} (ha : BdAt V a e) (hz : e.num.sz ≤ 2 ^ 40) : a00 prog D0l #[a.val] V fun v V' => ∃ b : BdV, v = b.val ∧ BdAt V' b e.abs := by
 refine a0k a V _ ((z02 ha hz).mono fun v V1 l1 hv => ⟨_, hv, fun h => ?_, fun h => ?_⟩)
 · have h : e.sign < 0 := by simpa using h
   exact (T00 (ha.le l1)).mono fun v V2 _ ⟨b, hv, hb⟩ => ⟨b, hv, b, rfl, by unfold Eb.abs; rw [if_pos h]; exact hb⟩
 · have h : ¬ e.sign < 0 := by simpa using h
   exact ⟨a, rfl, by unfold Eb.abs; rw [if_neg h]; exact ha.le l1⟩
theorem S0n (e : Eb) : e.abs.num.sz = e.num.sz := by
 unfold Eb.abs; split
 · exact a06 e
 · rfl
theorem q0e {V : View} : a00 prog E0l #[.int .i64 0] V fun v V' => ∃ b : BdV, v = b.val ∧ BdAt V' b (Eb.fin 0) := by
 refine b0k 0 V _ ((y0c (by omega) (by omega)).mono fun v V1 _ ⟨r, hv, hr⟩ => ⟨r, hv, _, rfl, rfl, ?_, .inl rfl⟩)
 rw [Rat.intCast_zero] at hr; exact hr
theorem s0e {e : Es} {S : Nat} (he : l01 e S) (hS : 1 ≤ S) : l01 e.size S := by
 have a := S0n e.lo; have b := S0n e.hi; have c := he.1; have d := he.2
 have p : ∀ way, (Eb.pick way [e.lo.abs, e.hi.abs]).num.sz ≤ S := fun way => m0e (by simp) (by intro x hx; simp at hx; rcases hx with rfl | rfl <;> omega)
 unfold Es.size; split
 · exact ⟨Nat.le_trans q0i hS, p 1⟩
 · exact ⟨p (-1), p 1⟩
theorem s0b {V : View} {s : SetV} {e : Es} (h : EsAt V s e) {S : Nat} (he : l01 e S) (hS : S ≤ 2 ^ 30) : a00 prog B0o #[s.val] V fun v V' => ∃ r : SetV, v = r.val ∧ EsAt V' r e.size := by
 have a := S0n e.lo; have b := S0n e.hi; have c := he.1; have d := he.2
 have p : ∀ x ∈ [e.lo.abs, e.hi.abs], x.num.sz ≤ 2 ^ 40 := by intro x hx; simp at hx; rcases hx with rfl | rfl <;> omega
 refine c0m s V _ ((I09 h.lo (by omega)).mono fun v V1 l1 ⟨r1, hv, h1⟩ => ⟨r1, hv, (I09 (h.hi.le l1) (by omega)).mono fun v V2 l2 ⟨r2, hv, h2⟩ => ⟨r2, hv, ?_⟩⟩)
 refine (e0b (h.le (View.le_trans l1 l2)) he hS).mono fun v V3 l3 hv => ⟨_, hv, fun hc => ?_, fun hc => ?_⟩
 · refine q0e.mono fun v V4 l4 ⟨r4, hv, h4⟩ => ⟨r4, hv, fun b1 V5 l5 _ hb1 => ?_⟩
   have L := View.le_trans l3 (View.le_trans l4 l5)
   refine (Y05 (a0a (h1.le (View.le_trans l2 L)) (h2.le L) hb1) (by simp) (by simp) p).mono fun v V6 l6 ⟨r5, hv, h5⟩ => ⟨r5, hv, _, rfl, ?_⟩
   unfold Es.size; rw [if_pos hc]; exact ⟨h4.le (View.le_trans l5 l6), h5⟩
 · intro b2 V7 l7 _ hb2
   have L := View.le_trans l3 l7
   refine (Z0b (a0a (h1.le (View.le_trans l2 L)) (h2.le L) hb2) (by simp) (by simp) p).mono fun v V8 l8 ⟨r6, hv, h6⟩ => ⟨r6, hv, fun b3 V9 l9 _ hb3 => ?_⟩
   have L2 := View.le_trans L (View.le_trans l8 l9)
   refine (Y05 (a0a (h1.le (View.le_trans l2 L2)) (h2.le L2) hb3) (by simp) (by simp) p).mono fun v V10 l10 ⟨r7, hv, h7⟩ => ⟨r7, hv, _, rfl, ?_⟩
   unfold Es.size; rw [if_neg (by rw [hc]; decide)]; exact ⟨h6.le (View.le_trans l9 l10), h7⟩
theorem t0e {e : Es} {S : Nat} (he : l01 e S) (hS : 1 ≤ S) : l01 e.square (2 * S + 1) := by
 have z := s0e he hS
 have a := b06 e.size.lo e.size.lo; have b := b06 e.size.hi e.size.hi
 have c := z.1; have d := z.2
 exact ⟨by show (e.size.lo.mul e.size.lo).num.sz ≤ _; omega, by show (e.size.hi.mul e.size.hi).num.sz ≤ _; omega⟩
theorem K08 {V : View} {s : SetV} {e : Es} (h : EsAt V s e) {S : Nat} (he : l01 e S) (h1S : 1 ≤ S) (hS : S ≤ 2 ^ 30) : a00 prog s0j #[s.val] V fun v V' => ∃ r : SetV, v = r.val ∧ EsAt V' r e.square := by
 have z := s0e he h1S
 have c := z.1; have d := z.2
 refine B0h s V _ ((s0b h he hS).mono fun v V1 l1 ⟨r1, hv, h1⟩ => ⟨r1, hv, ?_⟩)
 refine (l03 h1.lo h1.lo (by omega) (by omega)).mono fun v V2 l2 ⟨r2, hv, h2⟩ => ⟨r2, hv, ?_⟩
 exact (l03 (h1.hi.le l2) (h1.hi.le l2) (by omega) (by omega)).mono fun v V3 l3 ⟨r3, hv, h3⟩ => ⟨r3, hv, _, rfl, h2.le l3, h3⟩
def Sk.square (s : Sk) : Sk := s.set.square.span
def Bk.norm (b : Bk) : Sk := (b.re.set.square.add b.im.set.square).span
theorem C0i {V : View} {b : Bk} (h : b.ok) : a00 prog O0f #[b.v.val] V fun v _ => v = (Bk.norm b).v.val := by
 have z1 := t0e (C02 h.re) (by omega); have z2 := t0e (C02 h.im) (by omega)
 refine d0m b.v V _ ((c03 h.re).mono fun v V1 l1 ⟨r1, hv, h1⟩ => ⟨r1, hv, ?_⟩)
 refine (K08 h1 (C02 h.re) (by omega) (by omega)).mono fun v V2 l2 ⟨r2, hv, h2⟩ => ⟨r2, hv, ?_⟩
 refine (c03 h.im).mono fun v V3 l3 ⟨r3, hv, h3⟩ => ⟨r3, hv, ?_⟩
 refine (K08 h3 (C02 h.im) (by omega) (by omega)).mono fun v V4 l4 ⟨r4, hv, h4⟩ => ⟨r4, hv, ?_⟩
 refine (F05 (h2.le (View.le_trans l3 l4)) h4 z1 z2 (by omega)).mono fun v V5 l5 ⟨r5, hv, h5⟩ => ⟨r5, hv, ?_⟩
 exact (b03 h5 (f0b z1 z2) (by omega)).mono fun v V6 _ hv => ⟨_, hv, rfl⟩
theorem BqAt.ok2 {V : View} {b : BdV} {e : Eb} (h : BqAt V b e) : e.ok := h.ok

theorem D0i {V : View} {r : RatV} (h : ratI r) : a00 prog z0q #[r.val] V fun v V' => ∃ x : NumV, v = x.val ∧ QAt V' x (ratQ r) := by
 obtain ⟨⟨a1, a2⟩, ⟨b1, b2⟩, ⟨c1, c2⟩⟩ := h
 refine z0p r V _ ⟨fun hd => ?_, fun hd => ?_⟩
 · have hd : r.den = 0 := by simpa using hd
   refine (n0b a1 a2 b1 b2 (by omega) (by omega) (by omega)).mono fun v V1 _ ⟨x, hv, hx⟩ => ⟨x, 0, hv, x, rfl, ?_⟩
   have e : ratQ r = ⟨((r.re : Int) : Rat) / ((1 : Int) : Rat), ((r.im : Int) : Rat) / ((1 : Int) : Rat)⟩ := by
    unfold ratQ; rw [if_pos hd]
    exact Cq.ext' (by simp only []; grind) (by simp only []; grind)
   rw [e]; exact hx
 · have hd : r.den ≠ 0 := by simpa using hd
   refine (n0b a1 a2 b1 b2 c1 c2 hd).mono fun v V1 _ ⟨x, hv, hx⟩ => ⟨x, 0, hv, x, rfl, ?_⟩
   have e : ratQ r = ⟨((r.re : Int) : Rat) / ((r.den : Int) : Rat), ((r.im : Int) : Rat) / ((r.den : Int) : Rat)⟩ := by
    unfold ratQ; rw [if_neg hd]
   rw [e]; exact hx

theorem N0k {V : View} {k : Int} (hk : inK k) : a00 prog i0c #[.float .f64 (t01 k)] V fun v V' => ∃ (r : NumV) (e : Int), v = .tuple #[r.val, .int .i64 e] ∧ QAt V' r ⟨if k.natAbs < infR then fkq k else 0, 0⟩ ∧ (e = 0 ↔ k.natAbs < infR) := by
 by_cases c : k.natAbs < infR
 · rw [if_pos c]
   have hf : finW (t01 k) := by unfold inK at hk; exact j0r (by omega) (by omega)
   refine (p0e hf).mono fun v V1 _ ⟨r, hv, hr⟩ => ⟨r, 0, hv, ?_, fun _ => c, fun _ => rfl⟩
   have e : fq (t01 k) = fkq k := by rw [Z0t, keyK hk]
   rw [e] at hr; exact hr
 · rw [if_neg c]
   refine C0a (t01 k) V _ ((W07 (okK hk).1).mono fun v V1 _ hv => ⟨_, hv, fun _ => ?_, fun h => ?_⟩)
   · refine (J08 (n := 0) (by omega) (by omega)).mono fun v V2 _ ⟨r, hv, hr⟩ => ⟨r, hv, r, 1, rfl, hr, fun h => absurd h (by decide), fun h => absurd h c⟩
   · exfalso
     have h : t01 k % 2 ^ 63 < infR := Decidable.of_not_not fun g => by
      rw [decide_eq_false g] at h; exact absurd h (by decide)
     have m := K0a (w := t01 k) (okK hk).1
     rw [keyK hk] at m; omega
theorem tQ {p : Int} (h0 : 0 ≤ p) (h1 : p ≤ 255) : ratQ (RatV.mk (i64.wrap p) 0 255) = ⟨(p : Rat) / 255, 0⟩ := by
 rw [i64w (by omega) (by omega)]
 unfold ratQ
 dsimp only
 rw [if_neg (by decide)]
 refine Cq.ext' rfl ?_
 show ((0 : Int) : Rat) / _ = 0
 rw [Rat.intCast_zero, Rat.div_def, Rat.zero_mul]
theorem t_sz {p : Int} (h0 : 0 ≤ p) (h1 : p ≤ 255) : (⟨(p : Rat) / 255, 0⟩ : Cq).sz ≤ 8 := by
 have R : Rep ⟨(p : Rat) / 255, 0⟩ p 0 255 := ⟨by omega, rfl, E08 _⟩
 exact R.sz (y03 (by omega)) (by rw [Int.natAbs_zero, Y04]; omega) (y03 (by omega))
theorem W0u {p : Int} (h0 : 0 ≤ p) (h1 : p ≤ 255) : 0 ≤ (p : Rat) / 255 ∧ (p : Rat) / 255 ≤ 1 := by
 have p0 : (0 : Rat) ≤ (p : Rat) := by exact_mod_cast h0
 have p1 : (p : Rat) ≤ ((255 : Int) : Rat) := Rat.intCast_le_intCast.2 h1
 have e : ((255 : Int) : Rat) = 255 := rfl
 rw [e] at p1
 constructor <;> grind
theorem u0e {V : View} {s : Sk} (hs : s.ok) {p : Int} (h0 : 0 ≤ p) (h1 : p ≤ 255) (ps : s.proper) : a00 prog W0g #[s.v.val, .int .u8 p] V fun v V' => ∃ (r1 r2 : NumV) (b : Bool) (q : Rat), v = .tuple #[r1.val, r2.val, .bool b] ∧ G00 V' r1 ⟨q, 0⟩ ∧ (⟨q, 0⟩ : Cq).sz ≤ 2 ^ 14 ∧ (b = true → InE ⟨0, q⟩ s.set) := by
 have z0 : t01 0 = 0 := by decide
 have f0 : fkq 0 = 0 := F07
 have ri : ratI (RatV.mk (i64.wrap p) 0 255) := by
  rw [i64w (by omega) (by omega)]; exact ⟨⟨by show -9223372036854775808 ≤ p; omega, by show p ≤ _; omega⟩, ⟨by show (-9223372036854775808 : Int) ≤ 0; decide, by show (0 : Int) ≤ _; decide⟩, ⟨by show (-9223372036854775808 : Int) ≤ 255; decide, by show (255 : Int) ≤ _; decide⟩⟩
 have ts := t_sz h0 h1
 have tr := W0u h0 h1
 have bad : ∀ {V : View}, a00 prog g0c #[.int .i64 0] V fun v V' => ∃ r5 : NumV, v = r5.val ∧ ∃ (r1 r2 : NumV) (b : Bool) (q : Rat), (.tuple #[(NumV.mk (WhV.mk false (Sl.mk none 0 0)) (WhV.mk false (Sl.mk none 0 0)) (Sl.mk none 0 0)).val, r5.val, .bool false] : Value) = .tuple #[r1.val, r2.val, .bool b] ∧ G00 V' r1 ⟨q, 0⟩ ∧ (⟨q, 0⟩ : Cq).sz ≤ 2 ^ 14 ∧ (b = true → InE ⟨0, q⟩ s.set) := by
  intro V
  exact (J08 (n := 0) (by omega) (by omega)).mono fun v V1 _ ⟨r5, hv, _⟩ => ⟨r5, hv, _, r5, false, 0, rfl, G00.zero V1, Nat.le_trans M03 (by omega), fun h => absurd h (by decide)⟩
 have lim : ∀ {k : Int}, inK k → (⟨if k.natAbs < infR then fkq k else 0, 0⟩ : Cq).sz ≤ 2100 := by
  intro k hk
  split
  · exact e0s hk
  · exact Nat.le_trans M03 (by omega)
 refine P0e s.v p V _ ((N0k hs.lo).mono fun v V1 l1 ⟨r1, e1, hv, q1, i1⟩ => ⟨r1, e1, hv, (N0k hs.hi).mono fun v V2 l2 ⟨r3, e3, hv, q3, i3⟩ => ⟨r3, e3, hv, fun hc => ?_, fun hc => ⟨fun hd => ?_, fun hd => ?_⟩⟩⟩)
 · exact bad
 · exact bad
 have hc : e1 = 0 := by simpa using hc
 have hd : e3 = 0 := by simpa using hd
 have c1 := i1.1 hc; have c3 := i3.1 hd
 have lo := lim hs.lo; have hi := lim hs.hi
 rw [if_pos c1] at q1 lo; rw [if_pos c3] at q3 hi
 have cl := fun V => o0e (V := V) hs.lo E07
 have ch := fun V => o0e (V := V) hs.hi E07
 rw [z0, f0] at cl ch
 have i0 : (0 : Int).natAbs < infR := by decide
 refine (D0i ri).mono fun v V5 l5 ⟨r7, hv, h7⟩ => ⟨r7, hv, ?_⟩
 rw [tQ h0 h1] at h7
 refine (cl V5).mono fun v V6 l6 ⟨r8, e8, hv, h8, _⟩ => ⟨r8, e8, hv, (ch V6).mono fun v V7 l7 ⟨r10, e10, hv, h10, _⟩ => ⟨r10, e10, hv, ?_⟩⟩
 replace h8 := h8 ⟨c1, i0⟩
 replace h10 := h10 ⟨c3, i0⟩
 have s1 := B0e (⟨fkq s.hi, 0⟩ : Cq) ⟨fkq s.lo, 0⟩
 have s2 := m02 ((⟨fkq s.hi, 0⟩ : Cq) - ⟨fkq s.lo, 0⟩) ⟨(p : Rat) / 255, 0⟩
 have s3 := j04 (⟨fkq s.lo, 0⟩ : Cq) (((⟨fkq s.hi, 0⟩ : Cq) - ⟨fkq s.lo, 0⟩) * ⟨(p : Rat) / 255, 0⟩)
 refine (B08 h10 (h8.le l7) (by omega) (by omega)).mono fun v V8 l8 ⟨r12, hv, h12⟩ => ⟨r12, hv, ?_⟩
 refine (A0c ri).mono fun v V9 l9 ⟨r13, hv, h13⟩ => ⟨r13, hv, ?_⟩
 rw [tQ h0 h1] at h13
 refine (z01 (h12.le l9) h13 (by omega) (by omega)).mono fun v V10 l10 ⟨r14, hv, h14⟩ => ⟨r14, hv, ?_⟩
 have L10 := View.le_trans l7 (View.le_trans l8 (View.le_trans l9 l10))
 refine (I02 (h8.le L10) h14 (by omega) (by omega)).mono fun v V11 l11 ⟨r15, hv, h15⟩ => ⟨r15, hv, ?_⟩
 have M := View.le_trans l5 (View.le_trans l6 (View.le_trans L10 l11))
 refine (z0i (q3.le M) (q1.le (View.le_trans l2 M)) (by omega) (by omega)).mono fun v V12 l12 ⟨r16, hv, h16⟩ => ⟨r16, hv, ?_⟩
 refine (A0i h16 (h7.le (View.le_trans l6 (View.le_trans L10 (View.le_trans l11 l12)))) (by omega) (by omega)).mono fun v V13 l13 ⟨r17, hv, h17⟩ => ⟨r17, hv, ?_⟩
 refine (o0b (q1.le (View.le_trans l2 (View.le_trans M (View.le_trans l12 l13)))) h17 (by omega) (by omega)).mono fun v V14 l14 ⟨r18, hv, _⟩ => ⟨r18, hv, ?_⟩
 refine ⟨r15, r18, true, fkq s.lo + (fkq s.hi - fkq s.lo) * ((p : Rat) / 255), rfl, ?_, ?_, fun _ => ?_⟩
 · have := h15.le (View.le_trans l12 (View.le_trans l13 l14))
   rw [p0b, K06, B0i] at this; exact this
 · rw [p0b, K06, B0i] at s3
   rw [p0b, K06] at s2
   rw [p0b] at s1
   omega
 · have le : fkq s.lo ≤ fkq s.hi := Z0d ps.1
   have a := Rat.mul_nonneg (show 0 ≤ fkq s.hi - fkq s.lo by grind) tr.1
   have b := Rat.mul_le_mul_of_nonneg_left tr.2 (show 0 ≤ fkq s.hi - fkq s.lo by grind)
   constructor
   · show Eb.Le (endE s.lo) _; rw [A03 c1]; exact s02.2 (by grind)
   · show Eb.Le _ (endE s.hi); rw [A03 c3]; exact s02.2 (by grind)
def O0k (p : W06) : Prop := (0 ≤ p.re ∧ p.re ≤ 255) ∧ (0 ≤ p.im ∧ p.im ≤ 255)
theorem w0e {V : View} {b : Bk} (hb : b.ok) (pb : b.proper) {p : W06} (hp : O0k p) : a00 prog T0g #[b.v.val, p.val] V fun v V' => ∃ (r : NumV) (c : Bool) (z : Cq), v = .tuple #[r.val, .bool c] ∧ G00 V' r z ∧ z.sz ≤ 2 ^ 16 ∧ (c = true → b.has z = true) := by
 have ri : ratI (RatV.mk 0 1 0) := ⟨⟨by decide, by decide⟩, ⟨by decide, by decide⟩, ⟨by decide, by decide⟩⟩
 have rq : ratQ (RatV.mk 0 1 0) = ⟨0, 1⟩ := by decide +kernel
 have rs : (⟨0, 1⟩ : Cq).sz ≤ 4 := by decide +kernel
 refine Q0e b.v p V _ ((u0e hb.re hp.1.1 hp.1.2 pb.1).mono fun v V1 l1 ⟨r1, r2, c1, x, hv, h1, s1, k1⟩ => ⟨r1, r2, c1, hv, ?_⟩)
 refine (u0e hb.im hp.2.1 hp.2.2 pb.2).mono fun v V2 l2 ⟨r4, r5, c2, y, hv, h4, s4, k4⟩ => ⟨r4, r5, c2, hv, ?_⟩
 refine (A0c ri).mono fun v V3 l3 ⟨r7, hv, h7⟩ => ⟨r7, hv, ?_⟩
 rw [rq] at h7
 have m1 := m02 (⟨y, 0⟩ : Cq) ⟨0, 1⟩
 have m2 := j04 (⟨x, 0⟩ : Cq) ((⟨y, 0⟩ : Cq) * ⟨0, 1⟩)
 have e : (⟨x, 0⟩ : Cq) + (⟨y, 0⟩ : Cq) * ⟨0, 1⟩ = ⟨x, y⟩ := Cq.ext' (by rw [Q04, g03]; grind) (by rw [S04, E03]; grind)
 refine (z01 (h4.le l3) h7 (by omega) (by omega)).mono fun v V4 l4 ⟨r8, hv, h8⟩ => ⟨r8, hv, ?_⟩
 refine (I02 (h1.le (View.le_trans l2 (View.le_trans l3 l4))) h8 (by omega) (by omega)).mono fun v V5 l5 ⟨r9, hv, h9⟩ => ⟨r9, hv, ?_⟩
 rw [e] at h9 m2
 refine ⟨fun hc => ⟨r9, c2, ⟨x, y⟩, rfl, h9, by omega, fun g => o03.2 ⟨k1 hc, k4 g⟩⟩, fun hc => ⟨r9, false, ⟨x, y⟩, rfl, h9, by omega, fun g => absurd g (by decide)⟩⟩
end Go.Proofs.YtkibfmnkkiakoaaGreat
namespace Go.Proofs.YtkibfmnkkiakoaaGreat
open Go Go.Vc Go.Proofs Go.ChangeShapes Go.RowKit
theorem U8.of {n : Int} (h : (Lit.int .u8 n).wf = true) : 0 ≤ n ∧ n ≤ 255 := by
 have h := bounds_u8 h
 exact ⟨h.1, by have := h.2; omega⟩
section
variable {H : Type} {enc : TypeId × Value → H} {P : Program} {w : World} {base : Nat} {spare : Nat → Bool} {held : Bool} {t : TypeId} {v : Value} {dd : DataW H} {ps : List MemPlace}
theorem P0k (hk : s0f P 8 t = some [.int .u8, .int .u8, .int .u8, .int .u8]) (h : DataW.Trod enc P w base spare held t v dd ps) :
 ∃ x : Arr2, v = x.val ∧ O0k x.e0 ∧ O0k x.e1 := by
 have h := E0k hk h
 match hc : v.cells.toList, h with
 | [_, _, _, _], ⟨⟨n, e1, a1⟩, ⟨m, e2, a2⟩, ⟨k, e3, a3⟩, ⟨j, e4, a4⟩, _⟩ =>
   subst e1; subst e2; subst e3; subst e4
   exact ⟨⟨⟨n, m⟩, ⟨k, j⟩⟩, B0c hc (by simp), ⟨U8.of a1, U8.of a2⟩, ⟨U8.of a3, U8.of a4⟩⟩
end
end Go.Proofs.YtkibfmnkkiakoaaGreat
namespace Go.Proofs.YtkibfmnkkiakoaaGreat
open Go Go.Vc Go.Proofs
open Go.Proofs.Tryz (prog)
open Go.IntKind (i64 u64 u32 u8)
theorem s0s (a : Int) : 0 ≤ a * a := by
 rcases Int.le_total 0 a with h | h
 · exact Int.mul_nonneg h h
 · have := Int.mul_nonneg (show 0 ≤ -a by omega) (show 0 ≤ -a by omega)
   rwa [Int.neg_mul_neg] at this
theorem E0i {V : View} {s : Sl} {a : Nat} (hs : e00 V s a) (ha : bl a ≤ 2 ^ 40) :
 a00 prog M0o #[s.v] V fun v V' => ∃ (r : Sl) (k : Nat), v = r.v ∧ e00 V' r k ∧ E09 k a := by
 have wa : wn a ≤ 2 ^ 40 := s04 (by omega)
 have hl := hs.len_zero
 refine k0m s V _ (fun _ x V' => ∃ k, e00 V' x.t3 k ∧ k ≠ 0 ∧ a < (k + 1) * (k + 1) ∧ wn k ≤ 2 ^ 41) (fun _ x V' => f0k V' x.t3) ⟨fun hc => ?_, fun hc b1 V1 l1 _ hb => ?_⟩
 · have hs0 : (s.len : Int) = 0 := by simpa using hc
   have hc : a = 0 := hl.1 (by omega)
   exact ⟨_, 0, rfl, e00.zero V, by rw [hc]; exact ⟨Nat.le_refl _, by omega⟩⟩
 have a0 : a ≠ 0 := fun e => by have := hl.2 e; rw [this] at hc; exact absurd hc (by decide)
 refine (D08 (hs.le l1) (by omega)).mono fun v V2 l2 hv => ⟨_, hv, ?_⟩
 obtain ⟨m, hm⟩ : ∃ m, m = (bl a + 1) / 2 := ⟨_, rfl⟩
 have w : i64.wrap (Int.tdiv (i64.wrap (((bl a : Nat) : Int) + 1)) 2) = (m : Int) := by
  have e : ((bl a : Nat) : Int) + 1 = ((bl a + 1 : Nat) : Int) := by omega
  rw [e, i64w (n := ((bl a + 1 : Nat) : Int)) (by omega) (by omega)]
  have e3 : Int.tdiv ((bl a + 1 : Nat) : Int) 2 = (((bl a + 1) / 2 : Nat) : Int) := (Int.ofNat_tdiv (bl a + 1) 2).symm
  rw [e3, ← hm, i64w (by omega) (by omega)]
 rw [w]
 have one : e00 V2 (Sl.mk (some (Addr.mk b1 0 none)) 1 1) 1 := by
  have : dig 1 = [1] := by rw [Z02 (by omega)]; simp [b02]
  unfold e00; rw [this]
  exact z00.of_block (by rw [l2 _ _ hb]; rfl) rfl (Nat.le_refl _) (by intro d hd; simp at hd; omega)
 have wn1 : wn 1 ≤ 2 ^ 44 := Nat.le_trans (s04 (k := 1) (by rw [k0n]; omega)) (by decide)
 refine (L01 one wn1 (by omega)).mono fun v V3 l3 ⟨r2, hv, h2⟩ => ⟨r2, hv, ?_⟩
 rw [Nat.one_mul] at h2
 have pm : 0 < 2 ^ m := Nat.pow_pos (by omega)
 refine ⟨⟨2 ^ m, h2, by omega, ?_, ?_⟩, ?_⟩
 · have h1 := K0b a
   have h3 : 2 ^ bl a ≤ 2 ^ (m + m) := Nat.pow_le_pow_right (by omega) (by omega)
   rw [Nat.pow_add] at h3
   have : (2 ^ m + 1) * (2 ^ m + 1) = 2 ^ m * 2 ^ m + (2 * 2 ^ m + 1) := by grind
   omega
 · have := L03 m
   exact s04 (by omega)
 rintro ⟨t⟩ V4 l4 ⟨k, hk, k0, hk2, wk⟩
 dsimp only at hk ⊢
 have L4 := View.le_trans l1 (View.le_trans l2 (View.le_trans l3 l4))
 refine (Y02 (hs.le L4) hk (by omega) k0).mono fun v V5 l5 ⟨q, r, hv, hq, _⟩ => ⟨q, r, hv, ?_⟩
 have wq : wn (a / k) ≤ wn a := K04 (Nat.div_le_self a k)
 refine (t0c (hk.le l5) hq (by omega) (by omega)).mono fun v V6 l6 ⟨t6, hv, h6⟩ => ⟨t6, hv, ?_⟩
 have w6 := e0k k (a / k)
 refine (w0c (n := 1) h6 (by omega) (by omega)).mono fun v V7 l7 ⟨t7, hv, h7⟩ => ⟨t7, hv, ?_⟩
 have e2 : (k + a / k) / 2 ^ 1 = (k + a / k) / 2 := by rfl
 rw [e2] at h7
 have w7 : wn ((k + a / k) / 2) ≤ wn (k + a / k) := K04 (Nat.div_le_self _ _)
 have L7 := View.le_trans l5 (View.le_trans l6 l7)
 have hk7 := hk.le L7
 refine (z04 h7 hk7 (by omega)).mono fun v V8 l8 hv => ⟨_, hv, fun hc => ?_, fun hc => ?_⟩
 · have hc : ¬ (k + a / k) / 2 < k := by
     intro c; rw [if_pos c] at hc; exact absurd hc (by decide)
   refine ⟨_, k, rfl, hk7.le l8, ⟨?_, hk2⟩⟩
   have : k ≤ a / k := by omega
   exact (Nat.le_div_iff_mul_le (by omega)).1 this
 · have hc : (k + a / k) / 2 < k := by
     refine Nat.not_le.1 fun c => ?_
     rw [if_neg (by omega)] at hc
     split at hc <;> exact absurd hc (by decide)
   refine ⟨⟨_, h7.le l8, ?_, H0v (q := a / k) (x := k) ?_ (by omega), Nat.le_trans (K04 (Nat.le_of_lt hc)) wk⟩, ?_⟩
   · intro e
     by_cases c1 : k = 1
     · rw [c1, Nat.div_one] at e; omega
     · obtain ⟨q, hq'⟩ : ∃ q, q = a / k := ⟨_, rfl⟩
       rw [← hq'] at e; omega
   · have := Nat.div_add_mod a k; have := Nat.mod_lt a (show 0 < k by omega)
     rw [Nat.mul_add]; omega
   · rw [g07 (h7.le l8), g07 hk]; exact hc
theorem q06 {V : View} {s : Sl} {a : Nat} (hs : e00 V s a) (ha : bl a ≤ 2 ^ 38) :
 a00 prog x0j #[s.v] V fun v V' => ∃ (r : Sl) (b : Bool) (k : Nat), v = .tuple #[r.v, .bool b] ∧ e00 V' r k ∧ bl k ≤ bl a ∧ (b = true → k * k = a) := by
 refine F0h s V _ ((E0i hs (by omega)).mono fun v V1 l1 ⟨r, k, hv, h1, hk⟩ => ⟨r, hv, ?_⟩)
 have kb := W09 hk.le
 refine (B03 h1 h1 (s04 (by omega)) (s04 (by omega))).mono fun v V2 l2 ⟨r2, hv, h2⟩ => ⟨r2, hv, ?_⟩
 have mb := k08 k k
 refine (z04 h2 (hs.le (View.le_trans l1 l2)) (s04 (by omega))).mono fun v V3 l3 hv => ⟨_, hv, r, _, k, rfl, h1.le (View.le_trans l2 l3), kb, fun hb => ?_⟩
 refine Classical.byContradiction fun e => ?_
 rw [if_neg e] at hb
 split at hb <;> exact absurd hb (by decide)
theorem p07 {V : View} {s t : Sl} {a d S : Nat} (hs : e00 V s a) (ht : e00 V t d) (d0 : d ≠ 0) (ha : bl a ≤ S) (hd : bl d ≤ S) (hS : S ≤ 2 ^ 38) :
 a00 prog K0e #[s.v, t.v] V fun v V' => ∃ (r : NumV) (b : Bool), v = .tuple #[r.val, .bool b] ∧ (b = true → ∃ z : Rat, G00 V' r ⟨z, 0⟩ ∧ 0 ≤ z ∧ z * z = (a : Rat) / (d : Rat) ∧ (⟨z, 0⟩ : Cq).sz ≤ S) := by
 obtain ⟨g, hg⟩ : ∃ g, g = Nat.gcd a d := ⟨_, rfl⟩
 have g0 : 0 < g := by rw [hg]; exact Nat.gcd_pos_of_pos_right _ (by omega)
 have ga : g ∣ a := hg ▸ Nat.gcd_dvd_left a d
 have gd : g ∣ d := hg ▸ Nat.gcd_dvd_right a d
 refine P0d s t V _ ((z08 hs ht (s04 (by omega)) (s04 (by omega))).mono fun v V1 l1 ⟨r1, hv, h1⟩ => ⟨r1, hv, ?_⟩)
 rw [← hg] at h1
 refine (Y02 (hs.le l1) h1 (s04 (by omega)) (by omega)).mono fun v V2 l2 ⟨r2, r3, hv, h2, _⟩ => ⟨r2, r3, hv, ?_⟩
 refine (Y02 (ht.le (View.le_trans l1 l2)) (h1.le l2) (s04 (by omega)) (by omega)).mono fun v V3 l3 ⟨r4, r5, hv, h4, _⟩ => ⟨r4, r5, hv, ?_⟩
 have b1 := W09 (Nat.div_le_self a g)
 have b2 := W09 (Nat.div_le_self d g)
 refine (q06 (h2.le l3) (by omega)).mono fun v V4 l4 ⟨r6, c7, k, hv, h6, bk, k7⟩ => ⟨r6, c7, hv, ?_⟩
 refine (q06 (h4.le l4) (by omega)).mono fun v V5 l5 ⟨r8, c9, j, hv, h8, bj, k9⟩ => ⟨r8, c9, hv, fun _ => ?_, fun g7 => ⟨fun _ => ?_, fun g9 => ?_⟩⟩
 · exact ⟨_, false, rfl, fun e => absurd e (by decide)⟩
 · exact ⟨_, false, rfl, fun e => absurd e (by decide)⟩
 have k7 := k7 (by simpa using g7)
 have k9 := k9 (by simpa using g9)
 have dg : d / g ≠ 0 := by
  have := Nat.div_mul_cancel gd
  intro e; rw [e] at this; omega
 have j0 : j ≠ 0 := fun e => by rw [e] at k9; omega
 refine (e01 false (h6.le l5)).mono fun v V6 l6 ⟨r10, hv, h10⟩ => ⟨r10, hv, ?_⟩
 have h10 : W00 V6 r10 (k : Int) := h10
 have R : Rep ⟨(k : Rat) / (j : Rat), 0⟩ (k : Int) 0 j := ⟨j0, rfl, E08 _⟩
 refine (G01 h10 (W00.zero V6) (h8.le l6) R (by rw [Int.natAbs_natCast]; exact s04 (by omega)) (by rw [Int.natAbs_zero, J04]; omega) (s04 (by omega))).mono fun v V7 l7 ⟨r11, hv, h11⟩ => ⟨r11, hv, r11, true, rfl, fun _ => ⟨(k : Rat) / (j : Rat), h11, ?_, ?_, ?_⟩⟩
 · rw [Rat.div_def]; exact Rat.mul_nonneg (by exact_mod_cast Nat.zero_le _) (Rat.le_of_lt (Rat.inv_pos.2 (by exact_mod_cast (by omega : 0 < j))))
 · have ea : (a : Rat) = (k : Rat) * (k : Rat) * (g : Rat) := by
     have := Nat.div_mul_cancel ga
     rw [← k7] at this
     have : k * k * g = a := this
     exact_mod_cast this.symm
   have ed : (d : Rat) = (j : Rat) * (j : Rat) * (g : Rat) := by
    have := Nat.div_mul_cancel gd
    rw [← k9] at this
    exact_mod_cast this.symm
   have jn : (j : Rat) ≠ 0 := Y00 j0
   have gn : (g : Rat) ≠ 0 := Y00 (by omega)
   rw [ea, ed]; grind
 · exact R.sz (by rw [Int.natAbs_natCast]; omega) (by rw [Int.natAbs_zero, Y04]; omega) (by omega)
theorem F0i {V : View} {x : NumV} {z : Cq} (hx : G00 V x z) (hz : z.sz ≤ 2 ^ 36) : a00 prog T0f #[x.val] V fun v V' => ∃ r : NumV, v = r.val ∧ G00 V' r ⟨z.norm, 0⟩ ∧ (⟨z.norm, 0⟩ : Cq).sz ≤ 2 * z.sz + 1 := by
 have sA := z.szA; have sB := z.szB; have sD := z.szD
 have wA : wn z.A.natAbs ≤ 2 ^ 35 := s04 (by omega)
 have wB : wn z.B.natAbs ≤ 2 ^ 35 := s04 (by omega)
 have wD : wn z.D ≤ 2 ^ 35 := s04 (by omega)
 refine l0m x V _ ((f01 hx.re hx.re (by omega) (by omega)).mono fun v V1 l1 ⟨r1, hv, h1⟩ => ⟨r1, hv, ?_⟩)
 refine (f01 (hx.im.le l1) (hx.im.le l1) (by omega) (by omega)).mono fun v V2 l2 ⟨r2, hv, h2⟩ => ⟨r2, hv, ?_⟩
 have p1 := O01 wA wA; have p2 := O01 wB wB
 refine (F01 (h1.le l2) h2 (by omega) (by omega)).mono fun v V3 l3 ⟨r3, hv, h3⟩ => ⟨r3, hv, ?_⟩
 have L3 := View.le_trans l1 (View.le_trans l2 l3)
 refine (y00 (hx.le L3)).mono fun v V4 l4 ⟨r4, hv, h4⟩ => ⟨r4, hv, (y00 (hx.le (View.le_trans L3 l4))).mono fun v V5 l5 ⟨r5, hv, h5⟩ => ⟨r5, hv, ?_⟩⟩
 refine (B03 (h4.le l5) h5 (by omega) (by omega)).mono fun v V6 l6 ⟨r6, hv, h6⟩ => ⟨r6, hv, ?_⟩
 have p3 := C05 z.D z.D
 have hr := z.canon.rep
 have dn := Y00 hr.pos
 have R : Rep ⟨z.norm, 0⟩ (z.A * z.A + z.B * z.B) 0 (z.D * z.D) := by
  refine ⟨Nat.mul_ne_zero hr.pos hr.pos, ?_, E08 _⟩
  show z.re * z.re + z.im * z.im = _
  rw [hr.re, hr.im, Rat.intCast_add, Rat.intCast_mul, Rat.intCast_mul, Rat.natCast_mul]
  grind
 have q1 := P03 z.A z.A; have q2 := P03 z.B z.B; have q3 := k08 z.D z.D
 have q4 := l08 (a := z.A * z.A) (b := z.B * z.B) (k := 2 * z.sz) (by omega) (by omega)
 refine (G01 (h3.le (View.le_trans l4 (View.le_trans l5 l6))) (W00.zero V6) h6 R (by have := O06 p1 p2; omega) (by rw [Int.natAbs_zero, J04]; omega) (by omega)).mono fun v V7 _ ⟨r7, hv, h7⟩ => ⟨r7, hv, r7, rfl, h7, ?_⟩
 exact R.sz (by omega) (by rw [Int.natAbs_zero, Y04]; omega) (by omega)
theorem t0s (w : Rat) : (⟨0, w⟩ : Cq).A = 0 ∧ (⟨0, w⟩ : Cq).B = (⟨w, 0⟩ : Cq).A ∧ (⟨0, w⟩ : Cq).D = (⟨w, 0⟩ : Cq).D := by
 have c := (⟨w, 0⟩ : Cq).canon
 have b0 : (⟨w, 0⟩ : Cq).B = 0 := re_B w
 rw [b0] at c
 refine L0b.eqs ⟨⟨c.rep.pos, ?_, c.rep.re⟩, ?_⟩
 · show (0 : Rat) = ((0 : Int) : Rat) / _; rw [Rat.intCast_zero, Rat.div_def, Rat.zero_mul]
 · have := c.cop
   rw [Int.natAbs_zero, Nat.gcd_zero_left]
   rw [Int.natAbs_zero, Nat.gcd_zero_right] at this
   exact this
theorem q0w {V : View} {r : NumV} {w : Rat} (h : G00 V r ⟨w, 0⟩) : G00 V (NumV.mk (WhV.mk false (Sl.mk none 0 0)) r.re r.under) ⟨0, w⟩ := by
 obtain ⟨e1, e2, e3⟩ := t0s w
 exact ⟨by rw [e1]; exact W00.zero V, by rw [e2]; exact h.re, by rw [e3]; exact h.under⟩
theorem Y0v (w : Rat) : (⟨0, w⟩ : Cq).sz = (⟨w, 0⟩ : Cq).sz := by
 obtain ⟨e1, e2, e3⟩ := t0s w
 have b0 : (⟨w, 0⟩ : Cq).B = 0 := re_B w
 unfold Cq.sz; rw [e1, e2, e3, b0]
 simp only [Int.natAbs_zero, Y04]; omega
theorem G0i {V : View} {x : NumV} {z : Cq} (hx : G00 V x z) (hz : z.sz ≤ 2 ^ 20) :
 a00 prog Q0f #[x.val] V fun v V' => ∃ (r : NumV) (b : Bool), v = .tuple #[r.val, .bool b] ∧ (b = true → ∃ q, G00 V' r q ∧ t08 q z ∧ q.sz ≤ 2 ^ 30) := by
 have sA := z.szA; have sB := z.szB; have sD := z.szD
 have wA : wn z.A.natAbs ≤ 2 ^ 35 := s04 (by omega)
 have wB : wn z.B.natAbs ≤ 2 ^ 35 := s04 (by omega)
 have hr := z.canon.rep
 have dn := Y00 hr.pos
 have dp : (0 : Rat) < (z.D : Rat) := by have := hr.pos; exact_mod_cast (by omega : 0 < z.D)
 have no : ∀ {V : View} {r : NumV} {b : Bool}, b = false → ∃ (r' : NumV) (b' : Bool), (.tuple #[r.val, .bool b] : Value) = .tuple #[r'.val, .bool b'] ∧ (b' = true → ∃ q, G00 V r' q ∧ t08 q z ∧ q.sz ≤ 2 ^ 30) :=
  fun {V r b} h => ⟨r, b, rfl, fun e => by rw [h] at e; exact absurd e (by decide)⟩
 refine m0m x V _ ((X0a hx).mono fun v V1 l1 hv => ⟨_, hv, fun hc => ?_, fun hc => ?_⟩)
 · have hi : z.im = 0 := of_decide_eq_true hc
   have xs : z.re = (z.A : Rat) / (z.D : Rat) := hr.re
   refine (y00 (hx.le l1)).mono fun v V2 l2 ⟨r2, hv, h2⟩ => ⟨r2, hv, ?_⟩
   refine (p07 (S := 2 ^ 20) (hx.re.2.le (View.le_trans l1 l2)) h2 z.D_pos (by omega) (by omega) (by omega)).mono fun v V3 l3 ⟨r3, b, hv, k⟩ => ⟨r3, b, hv, fun hn => ?_, fun hn => ?_⟩
   · rw [hx.re.1] at hn
     have hn : z.A < 0 := of_decide_eq_true hn
     refine ⟨_, b, rfl, fun hb => ?_⟩
     obtain ⟨w, k1, k2, k3, k4⟩ := k hb
     refine ⟨⟨0, w⟩, q0w k1, ⟨?_, Rat.le_refl, fun _ => k2⟩, by rw [Y0v]; omega⟩
     have e : ((z.A.natAbs : Nat) : Rat) = -(z.A : Rat) := by
      have : ((z.A.natAbs : Nat) : Int) = -z.A := by omega
      have h : (((z.A.natAbs : Nat) : Int) : Rat) = ((-z.A : Int) : Rat) := by rw [this]
      rw [Rat.intCast_neg] at h; exact h
     refine Cq.ext' ?_ ?_
     · rw [g03]; show 0 * 0 - w * w = z.re
       rw [k3, e, xs, Rat.div_def, Rat.div_def]; grind
     · rw [E03, hi]; show 0 * w + w * 0 = (0 : Rat); grind
   · rw [hx.re.1] at hn
     have hn : ¬ z.A < 0 := of_decide_eq_false hn
     refine ⟨_, b, rfl, fun hb => ?_⟩
     obtain ⟨w, k1, k2, k3, k4⟩ := k hb
     refine ⟨⟨w, 0⟩, k1, ⟨?_, k2, fun _ => Rat.le_refl⟩, by omega⟩
     have e : ((z.A.natAbs : Nat) : Rat) = (z.A : Rat) := by
      have : ((z.A.natAbs : Nat) : Int) = z.A := by omega
      have h : (((z.A.natAbs : Nat) : Int) : Rat) = ((z.A : Int) : Rat) := by rw [this]
      exact h
     refine Cq.ext' ?_ ?_
     · rw [g03]; show w * w - 0 * 0 = z.re
       rw [k3, e, xs]; grind
     · rw [E03, hi]; show w * 0 + 0 * w = (0 : Rat); grind
 have hi : z.im ≠ 0 := of_decide_eq_false hc
 replace hx := hx.le l1
 have p1 := O01 wA wA; have p2 := O01 wB wB
 refine (f01 hx.re hx.re (by omega) (by omega)).mono fun v V4 l4 ⟨r5, hv, h5⟩ => ⟨r5, hv, ?_⟩
 refine (f01 (hx.im.le l4) (hx.im.le l4) (by omega) (by omega)).mono fun v V5 l5 ⟨r6, hv, h6⟩ => ⟨r6, hv, ?_⟩
 refine (F01 (h5.le l5) h6 (by omega) (by omega)).mono fun v V6 l6 ⟨r7, hv, h7⟩ => ⟨r7, hv, ?_⟩
 have q1 := P03 z.A z.A; have q2 := P03 z.B z.B
 have q4 := l08 (a := z.A * z.A) (b := z.B * z.B) (k := 2 * z.sz) (by omega) (by omega)
 refine (q06 h7.2 (by omega)).mono fun v V7 l7 ⟨r8, b9, m, hv, h8, bm, k8⟩ => ⟨r8, b9, hv, fun _ => no rfl, fun g9 => ?_⟩
 have k8 := k8 (by simpa using g9)
 refine (e01 false h8).mono fun v V8 l8 ⟨r10, hv, h10⟩ => ⟨r10, hv, ?_⟩
 have h10 : W00 V8 r10 (m : Int) := h10
 have L8 := View.le_trans l4 (View.le_trans l5 (View.le_trans l6 (View.le_trans l7 l8)))
 replace hx := hx.le L8
 refine (F01 hx.re h10 (by omega) (by rw [Int.natAbs_natCast]; exact s04 (by omega))).mono fun v V9 l9 ⟨r11, hv, h11⟩ => ⟨r11, hv, ?_⟩
 refine (y00 (hx.le l9)).mono fun v V10 l10 ⟨r12, hv, h12⟩ => ⟨r12, hv, ?_⟩
 refine (L01 (n := 1) h12 (s04 (by omega)) (by omega)).mono fun v V11 l11 ⟨r13, hv, h13⟩ => ⟨r13, hv, ?_⟩
 have mk : (m : Int) * m = z.A * z.A + z.B * z.B := by
  have e : ((m * m : Nat) : Int) = (((z.A * z.A + z.B * z.B).natAbs : Nat) : Int) := by rw [k8]
  have nn : 0 ≤ z.A * z.A + z.B * z.B := by have := s0s z.A; have := s0s z.B; omega
  rw [Int.natCast_mul] at e; omega
 have bne : z.B ≠ 0 := fun e => hi (by rw [hr.im, e, Rat.intCast_zero, Rat.div_def, Rat.zero_mul])
 have pos : 0 < z.A + (m : Int) := by
  refine Int.not_le.1 fun g => ?_
  have h1 : (m : Int) ≤ -z.A := by omega
  have h2 := Int.mul_le_mul h1 h1 (by omega) (by omega)
  have h3 : 0 < z.B * z.B := by
   have := s0s z.B
   have : z.B * z.B ≠ 0 := Int.mul_ne_zero bne bne
   omega
  have h4 : -z.A * -z.A = z.A * z.A := by rw [Int.neg_mul_neg]
  omega
 have bq := l08 (a := z.A) (b := (m : Int)) (k := 2 * z.sz + 1) (by omega) (by rw [Int.natAbs_natCast]; omega)
 have b2 := k08 z.D (2 ^ 1)
 have b3 := L03 1
 refine (p07 (S := 2 ^ 22) (h11.2.le (View.le_trans l10 l11)) h13 (Nat.mul_ne_zero hr.pos (by decide)) (by omega) (by omega) (by omega)).mono fun v V12 l12 ⟨r14, b15, hv, k14⟩ => ⟨r14, b15, hv, fun _ => no rfl, fun g15 => ?_⟩
 obtain ⟨w, w1, w2, w3, w4⟩ := k14 (by simpa using g15)
 have M := View.le_trans l9 (View.le_trans l10 (View.le_trans l11 l12))
 have im1 := b0u z
 have a1 := j04 (⟨w, 0⟩ : Cq) ⟨w, 0⟩
 refine (n0e (hx.le M) (by omega)).mono fun v V13 l13 ⟨r16, hv, h16⟩ => ⟨r16, hv, ?_⟩
 refine (I02 (w1.le l13) (w1.le l13) (by omega) (by omega)).mono fun v V14 l14 ⟨r17, hv, h17⟩ => ⟨r17, hv, ?_⟩
 have e17 : (⟨w, 0⟩ : Cq) + ⟨w, 0⟩ = ⟨w + w, 0⟩ := Cq.ext' (by rw [Q04]) (by rw [S04]; grind)
 rw [e17] at h17 a1
 -- the number under the root
 have ww : w * w * 2 * (z.D : Rat) = (z.A : Rat) + (m : Rat) := by
  have e : (((z.A + (m : Int)).natAbs : Nat) : Rat) = (z.A : Rat) + (m : Rat) := by
   have : (((z.A + (m : Int)).natAbs : Nat) : Int) = z.A + (m : Int) := by omega
   have h : ((((z.A + (m : Int)).natAbs : Nat) : Int) : Rat) = ((z.A + (m : Int) : Int) : Rat) := by rw [this]
   rw [Rat.intCast_add] at h; exact h
  have e2 : ((z.D * 2 ^ 1 : Nat) : Rat) = (z.D : Rat) * 2 := by rw [Rat.natCast_mul]; rfl
  rw [w3, e, e2]; grind
 have wpos : (0 : Rat) < (z.A : Rat) + (m : Rat) := by
  have : ((0 : Int) : Rat) < ((z.A + (m : Int) : Int) : Rat) := Rat.intCast_lt_intCast.2 pos
  rw [Rat.intCast_add] at this; exact this
 have wn0 : w ≠ 0 := by
  intro e
  rw [e] at ww; grind
 have nz : (⟨w + w, 0⟩ : Cq) ≠ Cq.zero := by
  intro e
  have : w + w = 0 := congrArg Cq.re e
  exact wn0 (by grind)
 refine (G08 (h16.le l14) h17 (by omega) (by omega)).mono fun v V15 l15 ⟨r18, e18, hv, _, h18⟩ => ⟨r18, e18, hv, ?_⟩
 obtain ⟨_, h18⟩ := h18 nz
 have dsz := f0s (z := ⟨z.im, 0⟩) (w := ⟨w + w, 0⟩) (S := 2 ^ 24) (by omega) (by omega)
 have ediv : (⟨z.im, 0⟩ : Cq).div ⟨w + w, 0⟩ = ⟨z.im / (w + w), 0⟩ := by
  have w2n : w + w ≠ 0 := fun e => wn0 (by grind)
  refine Cq.ext' ?_ ?_
  · show (z.im * (w + w) + 0 * 0) / ((w + w) * (w + w) + 0 * 0) = _
    grind
  · show ((0 : Rat) * (w + w) - z.im * 0) / _ = 0
    have : (0 : Rat) * (w + w) - z.im * 0 = 0 := by grind
    rw [this, Rat.div_def, Rat.zero_mul]
 rw [ediv] at h18 dsz
 refine (O04 (n := 1) (by omega) (by omega)).mono fun v V16 l16 ⟨r20, hv, h20⟩ => ⟨r20, hv, ?_⟩
 obtain ⟨u1, u2, u3⟩ := t0s 1
 obtain ⟨o1, o2, o3⟩ := G05 1
 rw [Rat.intCast_one] at o1 o2 o3
 have hi1 : G00 V16 (NumV.mk (WhV.mk false (Sl.mk none 0 0)) r20 (Sl.mk none 0 0)) ⟨0, 1⟩ :=
  ⟨by rw [u1]; exact W00.zero _, by rw [u2, o1]; exact h20, by rw [u3, o3, if_pos rfl]; exact e00.zero _⟩
 have sz1 : (⟨0, 1⟩ : Cq).sz ≤ 4 := by rw [Y0v]; unfold Cq.sz; rw [o1, o2, o3]; decide
 have mm := m02 (⟨z.im / (w + w), 0⟩ : Cq) ⟨0, 1⟩
 refine (z01 (h18.le l16) hi1 (by omega) (by omega)).mono fun v V17 l17 ⟨r21, hv, h21⟩ => ⟨r21, hv, ?_⟩
 have e21 : (⟨z.im / (w + w), 0⟩ : Cq) * ⟨0, 1⟩ = ⟨0, z.im / (w + w)⟩ := Cq.ext' (by rw [g03]; grind) (by rw [E03]; grind)
 rw [e21] at h21 mm
 have aa := j04 (⟨w, 0⟩ : Cq) ⟨0, z.im / (w + w)⟩
 refine (I02 (w1.le (View.le_trans l13 (View.le_trans l14 (View.le_trans l15 (View.le_trans l16 l17))))) h21 (by omega) (by omega)).mono fun v V18 l18 ⟨r22, hv, h22⟩ => ⟨r22, hv, r22, true, rfl, fun _ => ⟨⟨w, z.im / (w + w)⟩, ?_, ?_, ?_⟩⟩
 · have e22 : (⟨w, 0⟩ : Cq) + ⟨0, z.im / (w + w)⟩ = ⟨w, z.im / (w + w)⟩ := Cq.ext' (by rw [Q04]; grind) (by rw [S04]; grind)
   rw [e22] at h22; exact h22
 · have w2n : w + w ≠ 0 := fun e => wn0 (by grind)
   obtain ⟨y, hy⟩ : ∃ y, y = z.im / (w + w) := ⟨_, rfl⟩
   have hy2 : y * (w + w) = z.im := by rw [hy]; exact Rat.div_mul_cancel w2n
   rw [← hy]
   refine ⟨Cq.ext' ?_ ?_, w2, fun e => absurd e wn0⟩
   · rw [g03]; show w * w - y * y = z.re
     have ai : (z.A : Rat) = z.re * (z.D : Rat) := by rw [hr.re]; exact (Rat.div_mul_cancel dn).symm
     have bi : (z.B : Rat) = z.im * (z.D : Rat) := by rw [hr.im]; exact (Rat.div_mul_cancel dn).symm
     have mr : (m : Rat) * (m : Rat) = (z.A : Rat) * (z.A : Rat) + (z.B : Rat) * (z.B : Rat) := by
      have h : (((m : Int) * m : Int) : Rat) = ((z.A * z.A + z.B * z.B : Int) : Rat) := by rw [mk]
      rw [Rat.intCast_add, Rat.intCast_mul, Rat.intCast_mul, Rat.intCast_mul] at h; exact h
     -- (A + m)(m - A) = B B, and 4 w w y y = y' y'
     have k1 : ((z.A : Rat) + (m : Rat)) * ((m : Rat) - (z.A : Rat)) = (z.B : Rat) * (z.B : Rat) := by grind
     have k2 : (z.B : Rat) * (z.B : Rat) = (w * w * 2 * (z.D : Rat)) * (y * y * 2 * (z.D : Rat)) := by rw [bi, ← hy2]; grind
     have k3 : (m : Rat) - (z.A : Rat) = y * y * 2 * (z.D : Rat) := by
      rw [k2, ww] at k1
      have nz2 : (z.A : Rat) + (m : Rat) ≠ 0 := by grind
      have := Rat.mul_eq_zero.1 (show ((z.A : Rat) + (m : Rat)) * ((m : Rat) - (z.A : Rat) - y * y * 2 * (z.D : Rat)) = 0 by grind)
      rcases this with g | g
      · exact absurd g nz2
      · grind
     have k4 : (w * w - y * y) * (z.D : Rat) = z.re * (z.D : Rat) := by rw [← ai]; grind
     have := Rat.mul_eq_zero.1 (show (w * w - y * y - z.re) * (z.D : Rat) = 0 by grind)
     rcases this with g | g
     · grind
     · exact absurd g dn
   · rw [E03]; show w * y + y * w = z.im; grind
 · have e22 : (⟨w, 0⟩ : Cq) + ⟨0, z.im / (w + w)⟩ = ⟨w, z.im / (w + w)⟩ := Cq.ext' (by rw [Q04]; grind) (by rw [S04]; grind)
   rw [e22] at aa; omega

theorem X0u {V : View} {b k : Nat} {l : List Value} (h : V b = some l.toArray) : V.has (Option.map (fun q => Addr.add q k) (some (Addr.mk b 0 none))) (l.drop k) := by
 intro j v hj
 have e : (Option.map (fun q => Addr.add q k) (some (Addr.mk b 0 none))).map (·.add j) = (some (Addr.mk b 0 none)).map (·.add (k + j)) := by
  show some (((Addr.mk b 0 none).add k).add j) = some ((Addr.mk b 0 none).add (k + j))
  rw [N0i]
 rw [e, M0b h]
 rw [List.getElem?_drop] at hj
 simpa using hj
theorem N0m {V : View} {k : Int} {p1 p2 : Option Addr} {x n : NumV} {X N : Rat} (hk : inK k) (hf : finW (t01 k)) (h1 : V.has (Option.map (fun q => Addr.add q 1) p1) x.val.cells.toList) (s1 : p1.isSome = true) (h2 : V.has p2 n.val.cells.toList) (s2 : p2.isSome = true)
 (hx : G00 V x ⟨X, 0⟩) (hn : G00 V n ⟨N, 0⟩) (zx : (⟨X, 0⟩ : Cq).sz ≤ 2 ^ 20) (zn : (⟨N, 0⟩ : Cq).sz ≤ 2 ^ 30) :
 a00 prog y05 #[.float .f64 (t01 k), .pointer p1, .pointer p2] V fun v _ => v = .int .i64 (rtC X N (fkq k)) := by
 have zq := e0s hk
 obtain ⟨q, hq⟩ : ∃ q, q = fkq k := ⟨_, rfl⟩
 rw [← hq] at zq ⊢
 have z1 := m02 ⟨q, 0⟩ ⟨q, 0⟩
 have two : (⟨((2 : Int) : Rat), 0⟩ : Cq).sz ≤ 2 := (Rep.ofInt 2).sz (by decide) (by decide) (by decide)
 refine H0h (t01 k) p1 p2 V _ ((l0e hf).mono fun v V1 l1 ⟨r1, hv, hr1⟩ => ⟨r1, hv, s1, x, t04 l1 h1, by rw [Option.isSome_map]; exact s1, ?_⟩)
 rw [keyK hk, ← hq] at hr1
 refine (z01 hr1 hr1 (by omega) (by omega)).mono fun v V2 l2 ⟨r2, hv, hr2⟩ => ⟨r2, hv, (y0c (by omega) (by omega)).mono fun v V3 l3 ⟨r3, hv, hr3⟩ => ⟨r3, hv, ?_⟩⟩
 have z2 := m02 ((⟨q, 0⟩ : Cq) * ⟨q, 0⟩) ⟨((2 : Int) : Rat), 0⟩
 refine (z01 (hr2.le l3) hr3 (by omega) (by omega)).mono fun v V4 l4 ⟨r4, hv, hr4⟩ => ⟨r4, hv, ?_⟩
 have L4 := View.le_trans l1 (View.le_trans l2 (View.le_trans l3 l4))
 have z3 := B0e ((⟨q, 0⟩ : Cq) * ⟨q, 0⟩ * ⟨((2 : Int) : Rat), 0⟩) ⟨X, 0⟩
 refine (B08 hr4 (hx.le L4) (by omega) (by omega)).mono fun v V5 l5 ⟨r5, hv, hr5⟩ => ⟨r5, hv, ?_⟩
 have e5 : (⟨q, 0⟩ : Cq) * ⟨q, 0⟩ * ⟨((2 : Int) : Rat), 0⟩ - ⟨X, 0⟩ = ⟨rtD X q, 0⟩ := by
  rw [K06, K06, p0b]; rfl
 rw [e5] at hr5 z3
 refine (C08 hr5 (G00.zero V5) (by omega) (Nat.le_trans M03 (by omega))).mono fun v V6 l6 hv => ⟨_, hv, ?_⟩
 have e6 : (⟨rtD X q, 0⟩ : Cq).cmp Cq.zero = cmpR (rtD X q) 0 := L0m _ _
 rw [e6]
 have cl : cmpR (rtD X q) 0 < 0 ↔ rtD X q < 0 := by
  unfold cmpR
  by_cases c : rtD X q < 0
  · rw [if_pos c]; exact ⟨fun _ => c, fun _ => by decide⟩
  · rw [if_neg c]; constructor
    · intro h; split at h <;> exact absurd h (by decide)
    · intro h; exact absurd h c
 refine ⟨fun hc => ?_, fun hc => ?_⟩
 · have hc : rtD X q < 0 := by rw [decide_eq_true_iff] at hc; exact cl.1 hc
   unfold rtC; rw [if_pos hc]
 · have hc : ¬ rtD X q < 0 := by rw [decide_eq_false_iff_not] at hc; exact fun g => hc (cl.2 g)
   have L6 := View.le_trans L4 (View.le_trans l5 l6)
   refine ⟨n, t04 L6 h2, s2, ?_⟩
   have z4 := m02 (⟨rtD X q, 0⟩ : Cq) ⟨rtD X q, 0⟩
   refine (z01 (hr5.le l6) (hr5.le l6) (by omega) (by omega)).mono fun v V7 l7 ⟨r7, hv, hr7⟩ => ⟨r7, hv, ?_⟩
   refine (C08 hr7 (hn.le (View.le_trans L6 l7)) (by omega) (by omega)).mono fun v V8 _ hv => ⟨_, hv, ?_⟩
   rw [K06]
   have e8 : (⟨rtD X q * rtD X q, 0⟩ : Cq).cmp ⟨N, 0⟩ = cmpR (rtD X q * rtD X q) N := L0m _ _
   rw [e8]
   unfold rtC; rw [if_neg hc]
theorem O0m {V : View} {k : Int} {p : Option Addr} {f : Fn2} {X N : Rat} (hp : V.load p = some (f.val y05))
 (h : a00 prog y05 #[.float .f64 (t01 k), .pointer f.p0, .pointer f.p1] V fun v _ => v = .int .i64 (rtC X N (fkq k))) :
 a00 prog f08 #[.float .f64 (t01 k), .pointer p] V fun v _ => v = .bool (decide (rtC X N (fkq k) ≤ 0)) :=
 I0h (t01 k) p V _ ⟨f, hp, h.mono fun v V1 _ hv => ⟨_, hv, rfl⟩⟩
theorem P0m {V : View} {f : Fn1} (U : Nat → Bool) (h0 : U 0 = true) (hU : ∀ V' (r : Nat), V.le V' → r < infR → a00 prog f08 #[.float .f64 r, .pointer f.p0] V' fun v _ => v = .bool (U r)) :
 a00 prog A0j #[f.val f08] V fun v _ => ∃ r : Nat, v = .float .f64 r ∧ r < infR ∧ U r = true ∧ (r + 1 = infR ∨ U (r + 1) = false) := by
 have hi : infR = 9218868437227405312 := rfl
 refine G0h f V _ (fun _ x _ => ∃ lo hi : Nat, x.t3 = lo ∧ x.t4 = hi ∧ lo ≤ hi ∧ hi < infR ∧ U lo = true ∧ (hi + 1 = infR ∨ U (hi + 1) = false)) (fun _ x _ => (x.t4 - x.t3).toNat) ?_
 refine ⟨_, X05 9218868437227405311, ⟨0, 9218868437227405311, rfl, rfl, by omega, by omega, h0, .inl (by omega)⟩, ?_⟩
 rintro ⟨t3, t4⟩ V1 l1 ⟨lo, hi', rfl, rfl, hle, hlt, hU1, hU2⟩
 dsimp only
 refine ⟨fun hc => ?_, fun hc => ?_⟩
 · have hc : lo < hi' := by have : (lo : Int) < (hi' : Int) := by simpa using hc
                            omega
   obtain ⟨m, hm⟩ : ∃ m : Nat, m = lo + (hi' - lo + 1) / 2 := ⟨_, rfl⟩
   have w : u64.wrap ((lo : Int) + (u64.wrap (Int.tdiv (u64.wrap ((u64.wrap ((hi' : Int) - (lo : Int))) + 1)) 2))) = (m : Int) := by
    have e1 : (hi' : Int) - (lo : Int) = ((hi' - lo : Nat) : Int) := by omega
    rw [e1, K03 (y := hi' - lo) (by omega)]
    have e2 : ((hi' - lo : Nat) : Int) + 1 = ((hi' - lo + 1 : Nat) : Int) := by omega
    rw [e2, K03 (y := hi' - lo + 1) (by omega)]
    have e3 : Int.tdiv ((hi' - lo + 1 : Nat) : Int) 2 = (((hi' - lo + 1) / 2 : Nat) : Int) := (Int.ofNat_tdiv (hi' - lo + 1) 2).symm
    rw [e3, K03 (y := (hi' - lo + 1) / 2) (by omega)]
    have e4 : (lo : Int) + (((hi' - lo + 1) / 2 : Nat) : Int) = (m : Int) := by omega
    rw [e4, K03 (y := m) (by omega)]
   rw [w]
   refine ⟨m, l04 m, (hU V1 m l1 (by omega)).mono fun v V2 l2 hv => ⟨_, hv, fun hb => ?_, fun hb => ?_⟩⟩
   · exact ⟨⟨m, hi', rfl, rfl, by omega, hlt, hb, hU2⟩, by show ((hi' : Int) - (m : Int)).toNat < ((hi' : Int) - (lo : Int)).toNat; omega⟩
   · have w2 : u64.wrap ((m : Int) - 1) = ((m - 1 : Nat) : Int) := by
       have : (m : Int) - 1 = ((m - 1 : Nat) : Int) := by omega
       rw [this, K03 (by omega)]
     rw [w2]
     refine ⟨⟨lo, m - 1, rfl, rfl, by omega, by omega, hU1, .inr ?_⟩, by show (((m - 1 : Nat) : Int) - (lo : Int)).toNat < ((hi' : Int) - (lo : Int)).toNat; omega⟩
     have : m - 1 + 1 = m := by omega
     rw [this]; exact hb
 · have hc : lo = hi' := by have : ¬ (lo : Int) < (hi' : Int) := by simpa using hc
                            omega
   subst hc
   exact ⟨lo, l04 lo, lo, rfl, hlt, hU1, hU2⟩
theorem H0i {V : View} : a00 prog E0d #[.float .f64 1, .float .f64 infR] V fun v _ => v = .float .f64 1 := by
 refine M0c 1 infR V _ ?_
 refine ⟨_, X05 1, _, X05 infR, 1, ?_, rfl⟩
 have e := l04 1
 refine (?_ : S02 prog T04 #[.int .u64 ((1 : Nat) : Int)] (.float .f64 1) = _) ▸ e
 congr 3
theorem w0f {V : View} {r : Nat} (hr : r < infR) : a00 prog I0c #[.float .f64 r, .float .f64 infR] V fun v _ => v = .float .f64 (r + 1 : Nat) := by
 have hi : infR = 9218868437227405312 := rfl
 have ok1 : okW r := ⟨by omega, by rw [Nat.mod_eq_of_lt (by omega)]; omega⟩
 have ok2 : okW infR := ⟨by omega, by rw [Nat.mod_eq_of_lt (by omega)]; exact Nat.le_refl _⟩
 have ok0 : okW 0 := ⟨by decide, by decide⟩
 have k1 : key r = r := a0b (by omega)
 have k2 : key infR = infR := a0b (by omega)
 have k0 : key 0 = 0 := by decide
 refine I0b r infR V _ ((A04 ok1.1).mono fun v V1 _ hv => ⟨_, hv, fun h => ?_, fun _ => (A04 ok2.1).mono fun v V3 _ hv => ⟨_, hv, fun h => ?_, fun _ => ⟨fun h => ?_, fun _ => ⟨fun h => ?_, fun h => ⟨fun _ => ?_, fun h2 => ?_⟩⟩⟩⟩⟩)
 · have h : ¬ okW r := by simpa using h
   exact absurd ok1 h
 · have h : ¬ okW infR := by simpa using h
   exact absurd ok2 h
 · rw [N0a ok1 ok2, k1, k2] at h
   have h : (r : Int) = infR := by simpa using h
   omega
 · rw [N0a ok1 ok0, k1, k0] at h
   have h : (r : Int) = 0 := by simpa using h
   have r0 : r = 0 := by omega
   subst r0
   exact ⟨1, l04 1, H0i.mono fun v V5 _ hv => ⟨_, hv, rfl⟩⟩
 · refine ⟨_, X05 r, r + 1, ?_, rfl⟩
   have w : u64.wrap ((r : Int) + 1) = ((r + 1 : Nat) : Int) := by
    have : (r : Int) + 1 = ((r + 1 : Nat) : Int) := by omega
    rw [this, K03 (by omega)]
   rw [w]; exact l04 (r + 1)
 · exfalso
   rw [N0a ok1 ok0, k1, k0] at h
   have h : ¬ (r : Int) = 0 := by simpa using h
   rw [M0a ok2 ok1, M0a ok1 ok0, k1, k2, k0] at h2
   have a1 : decide ((r : Int) < (infR : Int)) = true := by rw [decide_eq_true_iff]; omega
   have a2 : decide ((0 : Int) < (r : Int)) = true := by rw [decide_eq_true_iff]; omega
   rw [a1, a2] at h2; exact absurd h2 (by decide)
theorem J02 {V : View} {a b : BdV} {e f : Eb} (up : Bool) (ha : BdAt V a e) (hb : BdAt V b f) (he : e.num.sz ≤ 2 ^ 12) (hf : f.num.sz ≤ 2 ^ 12) :
 a00 prog C0o #[a.val, b.val, .bool up] V fun v _ => ∃ k : Nat, v = .float .f64 k ∧ U00 e f up k := by
 have ia := ha.inf; have ib := hb.inf
 refine n0m a b up V _ ⟨fun h => ?_, fun h => ⟨fun h2 => ?_, fun h2 => ⟨fun h3 => ?_, fun h3 => ?_⟩⟩⟩
 · have h : 0 < e.inf := by rw [← ia]; simpa using h
   exact w0g.mono fun v V1 _ hv => ⟨_, hv, infR, rfl, by unfold U00; rw [if_pos (.inl h)]⟩
 · have h2 : f.inf ≠ 0 := by rw [← ib]; simpa using h2
   exact w0g.mono fun v V1 _ hv => ⟨_, hv, infR, rfl, by unfold U00; rw [if_pos (.inr h2)]⟩
 · have h : ¬ 0 < e.inf := by rw [← ia]; rw [decide_eq_false_iff_not] at h; exact h
   have h2 : ¬ f.inf ≠ 0 := by rw [← ib]; simpa using h2
   have h3 : e.inf < 0 := by rw [← ia]; simpa using h3
   exact ⟨0, rfl, by unfold U00; rw [if_neg (by rintro (g | g); exact h g; exact h2 g), if_pos h3]⟩
 · have h : ¬ 0 < e.inf := by rw [← ia]; rw [decide_eq_false_iff_not] at h; exact h
   have h2 : ¬ f.inf ≠ 0 := by rw [← ib]; simpa using h2
   have h3 : ¬ e.inf < 0 := by rw [← ia]; rw [decide_eq_false_iff_not] at h3; exact h3
   have goal : ∀ k, (∃ r, P0c (rtP e.x (e.x * e.x + f.x * f.x)) r ∧ k = if up = true ∧ rtC e.x (e.x * e.x + f.x * f.x) (fkq (r : Int)) ≠ 0 then r + 1 else r) → U00 e f up k := by
    intro k hk
    unfold U00; rw [if_neg (by rintro (g | g); exact h g; exact h2 g), if_neg h3]; exact hk
   obtain ⟨X, hX⟩ : ∃ X, X = e.x := ⟨_, rfl⟩
   obtain ⟨N, hN⟩ : ∃ N, N = e.x * e.x + f.x * f.x := ⟨_, rfl⟩
   have hXN : X * X ≤ N := by rw [hX, hN]; exact G0v _ _
   rw [← hN, ← hX] at goal
   have s1 := m02 e.num e.num; have s2 := m02 f.num f.num; have s3 := j04 (e.num * e.num) (f.num * f.num)
   refine (z01 ha.num ha.num (by omega) (by omega)).mono fun v V3 l3 ⟨r3, hv, hr3⟩ => ⟨r3, hv, (z01 (hb.num.le l3) (hb.num.le l3) (by omega) (by omega)).mono fun v V4 l4 ⟨r4, hv, hr4⟩ => ⟨r4, hv, ?_⟩⟩
   refine (I02 (hr3.le l4) hr4 (by omega) (by omega)).mono fun v V5 l5 ⟨r5, hv, hr5⟩ => ⟨r5, hv, ?_⟩
   have e5 : e.num * e.num + f.num * f.num = ⟨N, 0⟩ := by
    show (⟨e.x, 0⟩ : Cq) * ⟨e.x, 0⟩ + ⟨f.x, 0⟩ * ⟨f.x, 0⟩ = _
    rw [K06, K06, B0i, hN]
   rw [e5] at hr5 s3
   intro b1 V6 l6 hb1 b2 V7 l7 hb2 b3 V8 l8 hb3
   have zx : (⟨X, 0⟩ : Cq).sz ≤ 2 ^ 20 := by rw [hX]; exact Nat.le_trans he (by omega)
   have zn : (⟨N, 0⟩ : Cq).sz ≤ 2 ^ 30 := by omega
   have cmp : ∀ {V' : View} {k : Nat}, V8.le V' → k < infR → a00 prog y05 #[.float .f64 k, .pointer (some (Addr.mk b1 0 none)), .pointer (some (Addr.mk b2 0 none))] V' fun v _ => v = .int .i64 (rtC X N (fkq (k : Int))) := by
    intro V' k hle hk
    have L := View.le_trans (View.le_trans l7 l8) hle
    have L2 := View.le_trans l8 hle
    have := N0m (V := V') (k := (k : Int)) (p1 := some (Addr.mk b1 0 none)) (p2 := some (Addr.mk b2 0 none)) (x := a.x) (n := r5) (X := X) (N := N) (m03 (by omega)) (by rw [C03]; exact ⟨by unfold infR at hk; omega, by rw [Nat.mod_eq_of_lt (by unfold infR at hk; omega)]; exact hk⟩)
     (t04 L (X0u (k := 1) hb1)) rfl (t04 L2 (l0s hb2)) rfl
     (by rw [hX]; exact ha.num.le (View.le_trans l3 (View.le_trans l4 (View.le_trans l5 (View.le_trans l6 L))))) (hr5.le (View.le_trans l6 L)) zx zn
    rw [C03] at this
    exact this
   have ld : ∀ {V' : View}, V8.le V' → V'.load (some (Addr.mk b3 0 none)) = some ((Fn2.mk (some (Addr.mk b1 0 none)) (some (Addr.mk b2 0 none))).val y05) := by
    intro V' hle
    exact a02 hle (by simp only [View.load, hb3]; rfl)
   refine (P0m (f := Fn1.mk (some (Addr.mk b3 0 none))) (fun r => decide (rtC X N (fkq (r : Int)) ≤ 0)) ?_ ?_).mono fun v V9 l9 ⟨r, hv, hr, hU, hn⟩ => ⟨r, hv, ?_⟩
   · show decide (rtC X N (fkq ((0 : Nat) : Int)) ≤ 0) = true
     rw [show ((0 : Nat) : Int) = 0 from rfl, F07, decide_eq_true_iff, y0n]; exact c0t hXN
   · intro V' r hle hr
     have := O0m (V := V') (k := (r : Int)) (p := some (Addr.mk b3 0 none)) (ld hle) (by rw [C03]; exact cmp hle hr)
     rw [C03] at this
     exact this
   have top : P0c (rtP X N) r := by
    refine ⟨hr, y0n.1 (by simpa using hU), hn.imp id fun g => ?_⟩
    have g : ¬ rtC X N (fkq ((r + 1 : Nat) : Int)) ≤ 0 := by simpa using g
    exact fun p => g (y0n.2 p)
   refine ⟨fun hu => ⟨_, ld l9, (cmp l9 hr).mono fun v V10 l10 hv => ⟨_, hv, fun hc => ?_, fun hc => ?_⟩⟩, fun hu => ?_⟩
   · have hc : rtC X N (fkq (r : Int)) ≠ 0 := by simpa using hc
     refine w0g.mono fun v V11 _ hv => ⟨_, hv, (w0f hr).mono fun v V12 _ hv => ⟨_, hv, r + 1, rfl, goal _ ⟨r, top, ?_⟩⟩⟩
     rw [if_pos ⟨hu, hc⟩]
   · have hc : rtC X N (fkq (r : Int)) = 0 := by simpa using hc
     exact ⟨r, rfl, goal _ ⟨r, top, by rw [if_neg (fun g => g.2 hc)]⟩⟩
   · exact ⟨r, rfl, goal _ ⟨r, top, by rw [if_neg (fun g => by rw [hu] at g; exact absurd g.1 (by decide))]⟩⟩

theorem lt0K {k : Int} (h : inK k) : (FloatKind.f64.format.order (t01 k) 0 == some .lt) = decide (k < 0) := ltK h E07
theorem I0i {V : View} {b : Bk} (h : b.ok) : a00 prog P0f #[b.v.val] V fun v _ => ∃ t : Bk, v = .tuple #[t.v.val, .bool true] ∧ b0i b t := by
 have l0 := lt0K h.im.lo
 have h0 := lt0K h.im.hi
 have z1 : (endE b.re.lo).num.sz ≤ 2 ^ 12 := q0b h.re.lo
 have z2 : (endE b.re.hi).num.sz ≤ 2 ^ 12 := q0b h.re.hi
 have z3 : (endE b.im.lo).num.sz ≤ 2 ^ 12 := q0b h.im.lo
 have z4 : (endE b.im.hi).num.sz ≤ 2 ^ 12 := q0b h.im.hi
 have sz := s0e (C02 h.im) (by omega)
 have sz1 : b.im.set.size.lo.num.sz ≤ 2 ^ 12 := Nat.le_trans sz.1 (by omega)
 have sz2 : b.im.set.size.hi.num.sz ≤ 2 ^ 12 := Nat.le_trans sz.2 (by omega)
 have plus : ∀ {V : View} {k : Nat}, k ≤ infR → a00 prog O09 #[.float .f64 k] V fun v _ => v = .float .f64 (t01 (k : Int)) := by
  intro V k hk
  have := c06 (V := V) (okK (m03 hk))
  rw [keyK (m03 hk), C03] at this
  rw [C03]; exact this
 have minus : ∀ {V : View} {k : Nat}, k ≤ infR → a00 prog O09 #[.float .f64 (Op.negFloat .f64 k)] V fun v _ => v = .float .f64 (t01 (-(k : Int))) := by
  intro V k hk
  have a := E06 (okK (m03 hk))
  have := c06 (V := V) a.1
  rw [a.2, keyK (m03 hk), C03] at this
  exact this
 refine o0m b.v V _ ((c03 h.re).mono fun v V1 l1 ⟨x, hv, hx⟩ => ⟨x, hv, (c03 h.im).mono fun v V2 l2 ⟨y, hv, hy⟩ => ⟨y, hv, ?_⟩⟩)
 replace hx := hx.le l2
 refine (s0b hy (C02 h.im) (by omega)).mono fun v V3 l3 ⟨s, hv, hs⟩ => ⟨s, hv, ?_⟩
 refine (J02 false (hx.lo.le l3) hs.lo z1 sz1).mono fun v V4 l4 ⟨k1, hv, hk1⟩ => ⟨k1, hv, ?_⟩
 refine (J02 true (hx.hi.le (View.le_trans l3 l4)) (hs.hi.le l4) z2 sz2).mono fun v V5 l5 ⟨k2, hv, hk2⟩ => ⟨k2, hv, ?_⟩
 have L5 := View.le_trans l3 (View.le_trans l4 l5)
 have nz : ∀ {e : Eb}, e.num.sz ≤ 2 ^ 12 → e.neg.num.sz ≤ 2 ^ 12 := fun g => by rw [a06]; exact g
 have ret : ∀ {k3 k4 : Nat} {w3 w4 : Nat} (c : Int) (d : Int), w3 = t01 c → w4 = t01 d →
  (∃ k : Nat, (b.im.lo < 0 → c = -(k : Int) ∧ U00 b.re.set.lo.neg b.im.set.lo.neg true k) ∧ (¬ b.im.lo < 0 → c = k ∧ U00 b.re.set.hi.neg b.im.set.lo false k)) →
  (∃ k : Nat, (b.im.hi < 0 → d = -(k : Int) ∧ U00 b.re.set.hi.neg b.im.set.hi.neg false k) ∧ (¬ b.im.hi < 0 → d = k ∧ U00 b.re.set.lo.neg b.im.set.hi true k)) →
  ∃ t : Bk, Value.tuple #[(BoxV.mk (SpV.mk k1 k2) (SpV.mk w3 w4)).val, .bool true] = .tuple #[t.v.val, .bool true] ∧ b0i b t := by
  intro _ _ w3 w4 c d e3 e4 g3 g4
  refine ⟨⟨⟨(k1 : Int), (k2 : Int)⟩, ⟨c, d⟩⟩, ?_, ⟨⟨k1, rfl, hk1⟩, ⟨k2, rfl, hk2⟩, g3, g4⟩⟩
  unfold Bk.v Sk.v; rw [C03, C03, e3, e4]
 refine ⟨fun hc => ?_, fun hc => ?_⟩
 · have hc : b.im.lo < 0 := by have := l0 ▸ hc; simpa using this
   refine (T00 (hx.lo.le L5)).mono fun v V6 l6 ⟨r6, hv, h6⟩ => ⟨r6, hv, (T00 (hy.lo.le (View.le_trans L5 l6))).mono fun v V7 l7 ⟨r7, hv, h7⟩ => ⟨r7, hv, ?_⟩⟩
   refine (J02 true (h6.le l7) h7 (nz z1) (nz z3)).mono fun v V8 l8 ⟨k3, hv, hk3⟩ => ⟨k3, hv, ?_⟩
   have L8 := View.le_trans L5 (View.le_trans l6 (View.le_trans l7 l8))
   have g3 : ∃ k : Nat, (b.im.lo < 0 → (-(k3 : Int)) = -(k : Int) ∧ U00 b.re.set.lo.neg b.im.set.lo.neg true k) ∧ (¬ b.im.lo < 0 → (-(k3 : Int)) = k ∧ U00 b.re.set.hi.neg b.im.set.lo false k) := ⟨k3, fun _ => ⟨rfl, hk3⟩, fun g => absurd hc g⟩
   refine ⟨fun hd => ?_, fun hd => ?_⟩
   · have hd : b.im.hi < 0 := by have := h0 ▸ hd; simpa using this
     refine (T00 (hx.hi.le L8)).mono fun v V9 l9 ⟨r9, hv, h9⟩ => ⟨r9, hv, (T00 (hy.hi.le (View.le_trans L8 l9))).mono fun v V10 l10 ⟨r10, hv, h10⟩ => ⟨r10, hv, ?_⟩⟩
     refine (J02 false (h9.le l10) h10 (nz z2) (nz z4)).mono fun v V11 _ ⟨k4, hv, hk4⟩ => ⟨k4, hv, (minus hk3.le).mono fun v V12 _ hv => ⟨_, hv, (minus hk4.le).mono fun v V13 _ hv => ⟨_, hv, ?_⟩⟩⟩
     exact ret (k3 := k3) (k4 := k4) _ _ rfl rfl g3 ⟨k4, fun _ => ⟨rfl, hk4⟩, fun g => absurd hd g⟩
   · have hd : ¬ b.im.hi < 0 := by have := h0 ▸ hd; simpa using this
     refine (T00 (hx.lo.le L8)).mono fun v V9 l9 ⟨r9, hv, h9⟩ => ⟨r9, hv, ?_⟩
     refine (J02 true h9 (hy.hi.le (View.le_trans L8 l9)) (nz z1) z4).mono fun v V11 _ ⟨k4, hv, hk4⟩ => ⟨k4, hv, (minus hk3.le).mono fun v V12 _ hv => ⟨_, hv, (plus hk4.le).mono fun v V13 _ hv => ⟨_, hv, ?_⟩⟩⟩
     exact ret (k3 := k3) (k4 := k4) _ _ rfl rfl g3 ⟨k4, fun g => absurd g hd, fun _ => ⟨rfl, hk4⟩⟩
 · have hc : ¬ b.im.lo < 0 := by have := l0 ▸ hc; simpa using this
   refine (T00 (hx.hi.le L5)).mono fun v V6 l6 ⟨r6, hv, h6⟩ => ⟨r6, hv, ?_⟩
   refine (J02 false h6 (hy.lo.le (View.le_trans L5 l6)) (nz z2) z3).mono fun v V8 l8 ⟨k3, hv, hk3⟩ => ⟨k3, hv, ?_⟩
   have L8 := View.le_trans L5 (View.le_trans l6 l8)
   have g3 : ∃ k : Nat, (b.im.lo < 0 → (k3 : Int) = -(k : Int) ∧ U00 b.re.set.lo.neg b.im.set.lo.neg true k) ∧ (¬ b.im.lo < 0 → (k3 : Int) = k ∧ U00 b.re.set.hi.neg b.im.set.lo false k) := ⟨k3, fun g => absurd g hc, fun _ => ⟨rfl, hk3⟩⟩
   refine ⟨fun hd => ?_, fun hd => ?_⟩
   · have hd : b.im.hi < 0 := by have := h0 ▸ hd; simpa using this
     refine (T00 (hx.hi.le L8)).mono fun v V9 l9 ⟨r9, hv, h9⟩ => ⟨r9, hv, (T00 (hy.hi.le (View.le_trans L8 l9))).mono fun v V10 l10 ⟨r10, hv, h10⟩ => ⟨r10, hv, ?_⟩⟩
     refine (J02 false (h9.le l10) h10 (nz z2) (nz z4)).mono fun v V11 _ ⟨k4, hv, hk4⟩ => ⟨k4, hv, (plus hk3.le).mono fun v V12 _ hv => ⟨_, hv, (minus hk4.le).mono fun v V13 _ hv => ⟨_, hv, ?_⟩⟩⟩
     exact ret (k3 := k3) (k4 := k4) _ _ rfl rfl g3 ⟨k4, fun _ => ⟨rfl, hk4⟩, fun g => absurd hd g⟩
   · have hd : ¬ b.im.hi < 0 := by have := h0 ▸ hd; simpa using this
     refine (T00 (hx.lo.le L8)).mono fun v V9 l9 ⟨r9, hv, h9⟩ => ⟨r9, hv, ?_⟩
     refine (J02 true h9 (hy.hi.le (View.le_trans L8 l9)) (nz z1) z4).mono fun v V11 _ ⟨k4, hv, hk4⟩ => ⟨k4, hv, (plus hk3.le).mono fun v V12 _ hv => ⟨_, hv, (plus hk4.le).mono fun v V13 _ hv => ⟨_, hv, ?_⟩⟩⟩
     exact ret (k3 := k3) (k4 := k4) _ _ rfl rfl g3 ⟨k4, fun g => absurd g hd, fun _ => ⟨rfl, hk4⟩⟩

def X0p (V : View) (n cap : Nat) (o : List Value) (es : List Eb) : Prop := ∃ l, K05 6 n cap o l ∧ H02 6 bqC V l es ∧ n = es.length
theorem X0p.le {V V' : View} (hle : V.le V') {n cap : Nat} {o : List Value} {es : List Eb} (h : X0p V n cap o es) : X0p V' n cap o es := by
 obtain ⟨l, h1, h2, h3⟩ := h; exact ⟨l, h1, h2.imp (bqC.le hle), h3⟩
theorem X0p.push {V1 : View} {n cap : Nat} {o : List Value} {es : List Eb} {r : BdV} {e : Eb} {b : Nat} {R : Nat → Nat → List Value → Prop} (h : X0p V1 n cap o es) (hr : BqAt V1 r e) (hl : es.length ≤ 2 ^ 20)
 (hb : V1 b = some #[.int .i64 r.inf, .bool r.x.re.neg, r.x.re.mag.v, .bool r.x.im.neg, r.x.im.mag.v, r.x.under.v]) (hR : ∀ c l3, X0p V1 (n + 1) c l3 (es ++ [e]) → R (n + 1) c l3) :
 ∃ (l1 l2 : List Value), K05 6 n cap o l1 ∧ View.has V1 (some (Addr.mk b 0 none)) l2 ∧ List.length l2 = 1 * 6 ∧ (∀ v ∈ l2, Value.oneCell' v = true) ∧ n + 1 ≤ maxLen ∧ (n + 1) * 96 ≤ 140737488355328 ∧
  ∀ (c1 : Nat) (l3 : List Value), K05 6 (n + 1) c1 l3 (l1 ++ l2) → R (n + 1) c1 l3 := by
 obtain ⟨l, h1, h2, h3⟩ := h
 refine ⟨l, _, h1, l0s (l := [.int .i64 r.inf, .bool r.x.re.neg, r.x.re.mag.v, .bool r.x.im.neg, r.x.im.mag.v, r.x.under.v]) hb, rfl, D0g r, Nat.le_trans (show n + 1 ≤ 2 ^ 20 + 1 by omega) (by decide), by omega, fun c1 l3 hl3 => hR _ _ ⟨_, hl3, ?_, by simp; omega⟩⟩
 exact H02.append h2 (H02.one rfl ⟨r, rfl, hr⟩)
def Bk.div (b c : Bk) : Bk := if c.invE = 0 then b.mul c.inv else Bk.nil
theorem Q0k {V : View} {b c : Bk} (h : b.ok) (k : c.ok) : a00 prog x0q #[b.v.val, c.v.val] V fun v _ => v = .tuple #[(Bk.div b c).v.val, .int .i64 c.invE] := by
 refine y0p b.v c.v V _ ((E0c k).mono fun v V1 _ hv => ⟨_, _, hv, fun hc => ?_, fun hc => ?_⟩)
 · have hc : c.invE ≠ 0 := by simpa using hc
   unfold Bk.div; rw [if_neg hc]; rfl
 · have hc : c.invE = 0 := by simpa using hc
   refine (H08 h (C0e c)).mono fun v V2 _ hv => ⟨_, hv, ?_⟩
   unfold Bk.div; rw [if_pos hc, hc]

abbrev IncC (r2 r5 : BoxV) (r8 r10 : NumV) (V7 : View) (R : Value → View → Prop) : Prop :=
 a00 prog P0f #[r2.val] V7 fun v V32 => ∃ (r42 : BoxV) (r43 : Bool), v = .tuple #[r42.val, .bool r43] ∧
 a00 prog Q0f #[r8.val] V32 fun v V33 => ∃ (r44 : NumV) (r45 : Bool), v = .tuple #[r44.val, .bool r45] ∧
 a00 prog S03 #[r2.val, r8.val] V33 fun v V34 => ∃ r46 : Bool, v = .bool r46 ∧
 (r46 = true →
 a00 prog S03 #[r5.val, r10.val] V34 fun v V35 => ∃ r47 : Bool, v = .bool r47 ∧
 (r47 = true →
 a00 prog j0j #[r2.val, r5.val] V35 fun v V36 => ∃ r48 : BoxV, v = r48.val ∧
 a00 prog o0j #[r8.val, r10.val] V36 fun v V37 => ∃ r49 : NumV, v = r49.val ∧
 a00 prog S03 #[r48.val, r49.val] V37 fun v V38 => ∃ r50 : Bool, v = .bool r50 ∧
 (r50 = true →
 a00 prog k0j #[r2.val, r5.val] V38 fun v V39 => ∃ r51 : BoxV, v = r51.val ∧
 a00 prog n0j #[r8.val, r10.val] V39 fun v V40 => ∃ r52 : NumV, v = r52.val ∧
 a00 prog S03 #[r51.val, r52.val] V40 fun v V41 => ∃ r53 : Bool, v = .bool r53 ∧
 (r53 = true →
 a00 prog m0j #[r2.val, r5.val] V41 fun v V42 => ∃ r54 : BoxV, v = r54.val ∧
 a00 prog p0j #[r8.val, r10.val] V42 fun v V43 => ∃ r55 : NumV, v = r55.val ∧
 a00 prog S03 #[r54.val, r55.val] V43 fun v V44 => ∃ r56 : Bool, v = .bool r56 ∧
 (r56 = true →
 a00 prog l0j #[r2.val] V44 fun v V45 => ∃ r57 : BoxV, v = r57.val ∧
 a00 prog q0j #[r8.val] V45 fun v V46 => ∃ r58 : NumV, v = r58.val ∧
 a00 prog S03 #[r57.val, r58.val] V46 fun v V47 => ∃ r59 : Bool, v = .bool r59 ∧
 (r59 = true →
 a00 prog M0f #[r2.val] V47 fun v V48 => ∃ r60 : BoxV, v = r60.val ∧
 a00 prog S0f #[r8.val] V48 fun v V49 => ∃ r61 : NumV, v = r61.val ∧
 a00 prog S03 #[r60.val, r61.val] V49 fun v V50 => ∃ r62 : Bool, v = .bool r62 ∧
 (r62 = true →
 a00 prog O0f #[r2.val] V50 fun v V51 => ∃ r63 : SpV, v = r63.val ∧
 a00 prog T0f #[r8.val] V51 fun v V52 => ∃ r64 : NumV, v = r64.val ∧
 a00 prog N0f #[r63.val, r64.val] V52 fun v V53 => ∃ r65 : Bool, v = .bool r65 ∧
 (r65 = true →
 ((!r45) = true → R (.bool true) V53) ∧
 ((!r45) = false →
 a00 prog S03 #[r42.val, r44.val] V53 fun v V54 => ∃ r66 : Bool, v = .bool r66 ∧
 R (.bool r66) V54)) ∧
 (r65 = false → R (.bool false) V53)) ∧
 (r62 = false → R (.bool false) V50)) ∧
 (r59 = false → R (.bool false) V47)) ∧
 (r56 = false → R (.bool false) V44)) ∧
 (r53 = false → R (.bool false) V41)) ∧
 (r50 = false → R (.bool false) V38)) ∧
 (r47 = false → R (.bool false) V35)) ∧
 (r46 = false → R (.bool false) V34)
theorem M07 {V : View} {b : Bk} (h : b.ok) {x : NumV} {z : Cq} (hx : G00 V x z) (hz : z.sz ≤ 2 ^ 39) (hi : b.has z = true) {A B : View → Prop} (hA : ∀ V', View.le V V' → A V') : a00 prog S03 #[b.v.val, x.val] V fun v V' => ∃ r : Bool, v = .bool r ∧ (r = true → A V') ∧ (r = false → B V') :=
 (I06 h hx hz).mono fun v V' l hv => ⟨_, hv, fun _ => hA V' l, fun g => by rw [hi] at g; exact absurd g (by decide)⟩
theorem T0n {V : View} {b c : Bk} {x y : NumV} {z w : Cq} (hb : b.ok) (hc : c.ok) (hx : G00 V x z) (hy : G00 V y w) (zs : z.sz ≤ 2 ^ 16) (ws : w.sz ≤ 2 ^ 16) (h : b.has z = true) (k : c.has w = true) : IncC b.v c.v x y V fun v _ => v = .bool true := by
 have a1 := j04 z w; have a2 := B0e z w; have a3 := m02 z w
 have a4 := L08 z; have a5 := Z0p z
 have hs : (b.sub c).ok := Bk.sub_eq b c ▸ Bk.add_ok _ _
 refine (I0i hb).mono fun v V32 l32 ⟨t, hv, ht⟩ => ⟨_, _, hv, ?_⟩
 refine (G0i (hx.le l32) (by omega)).mono fun v V33 l33 ⟨rt, f, hv, hrt⟩ => ⟨rt, f, hv, ?_⟩
 replace hx := hx.le (View.le_trans l32 l33); replace hy := hy.le (View.le_trans l32 l33)
 refine M07 hb hx (by omega) h fun V34 l34 => ?_
 refine M07 hc (hy.le l34) (by omega) k fun V35 l35 => ?_
 have L35 := View.le_trans l34 l35
 refine (K0k hb hc).mono fun v V36 l36 hv => ⟨_, hv, ?_⟩
 have L36 := View.le_trans L35 l36
 refine (I02 (hx.le L36) (hy.le L36) (by omega) (by omega)).mono fun v V37 l37 ⟨r49, hv, h49⟩ => ⟨r49, hv, ?_⟩
 refine M07 (Bk.add_ok _ _) h49 (by omega) (H0r h k) fun V38 l38 => ?_
 have L38 := View.le_trans L36 (View.le_trans l37 l38)
 refine (L0k hb hc).mono fun v V39 l39 hv => ⟨_, hv, ?_⟩
 have L39 := View.le_trans L38 l39
 refine (B08 (hx.le L39) (hy.le L39) (by omega) (by omega)).mono fun v V40 l40 ⟨r52, hv, h52⟩ => ⟨r52, hv, ?_⟩
 refine M07 hs h52 (by omega) (J0u h k) fun V41 l41 => ?_
 have L41 := View.le_trans L39 (View.le_trans l40 l41)
 refine (H08 hb hc).mono fun v V42 l42 hv => ⟨_, hv, ?_⟩
 have L42 := View.le_trans L41 l42
 refine (z01 (hx.le L42) (hy.le L42) (by omega) (by omega)).mono fun v V43 l43 ⟨r55, hv, h55⟩ => ⟨r55, hv, ?_⟩
 refine M07 (Bk.mul_ok _ _) h55 (by omega) (J0r h k) fun V44 l44 => ?_
 have L44 := View.le_trans L42 (View.le_trans l43 l44)
 refine (H0k hb).mono fun v V45 l45 hv => ⟨_, hv, ?_⟩
 have L45 := View.le_trans L44 l45
 refine (A08 (hx.le L45)).mono fun v V46 l46 ⟨r58, hv, h58⟩ => ⟨r58, hv, ?_⟩
 refine M07 (Bk.neg_ok hb) h58 (by omega) (has_neg h) fun V47 l47 => ?_
 have L47 := View.le_trans L45 (View.le_trans l46 l47)
 refine (t0i hb).mono fun v V48 l48 hv => ⟨_, hv, ?_⟩
 have L48 := View.le_trans L47 l48
 refine (m0i (hx.le L48)).mono fun v V49 l49 ⟨r61, hv, h61⟩ => ⟨r61, hv, ?_⟩
 refine M07 (b0q hb) h61 (by omega) (q0t h) fun V50 l50 => ?_
 have L50 := View.le_trans L48 (View.le_trans l49 l50)
 refine (C0i hb).mono fun v V51 l51 hv => ⟨_, hv, ?_⟩
 have L51 := View.le_trans L50 l51
 refine (F0i (hx.le L51) (by omega)).mono fun v V52 l52 ⟨r64, hv, h64, s64⟩ => ⟨r64, hv, ?_⟩
 have hn : (Bk.norm b).has z.norm = true := s0t h
 refine (s0i (W02 _) h64 (by omega)).mono fun v V53 l53 hv => ⟨_, hv, fun _ => ⟨fun _ => rfl, fun g => ?_⟩, fun g => ?_⟩
 · obtain ⟨q, q1, q2, q3⟩ := hrt (by simpa using g)
   have L53 := View.le_trans L51 (View.le_trans l52 l53)
   refine (I06 ht.ok (q1.le L53) (by omega)).mono fun v V54 _ hv => ⟨_, hv, ?_⟩
   rw [t0t hb ht h q2]
 · have e : (decide ((⟨z.norm, 0⟩ : Cq).im = 0) && (Bk.norm b).has (⟨z.norm, 0⟩ : Cq).re) = true := by
     rw [show (⟨z.norm, 0⟩ : Cq).re = z.norm from rfl, hn]; simp
   exact absurd (g.symm.trans e) (by decide)
theorem W0c {V : View} {p q : O07} {a : Arr2} (h1 : p.u64) (h2 : q.u64) (a0 : O0k a.e0) (a1 : O0k a.e1) : a00 prog n0a #[p.val, q.val, a.val] V fun v _ => v = .bool true := by
 refine S09 p q a V _ (W0p.mono fun v V1 _ hv => ⟨_, hv, fun h => absurd h (by decide), fun _ => ?_⟩)
 refine (J0k h1).mono fun v V2 _ ⟨b, kb, hb, pb, hv⟩ => ⟨_, _, _, hv, ?_⟩
 refine (J0k h2).mono fun v V3 _ ⟨c, kc, hc, pc, hv⟩ => ⟨_, _, _, hv, fun _ => rfl, fun g1 => ⟨fun _ => rfl, fun g2 => ⟨by decide, ?_⟩⟩⟩
 have pb := pb (by simpa using g1)
 have pc := pc (by simpa using g2)
 refine (w0e hb pb a0).mono fun v V4 l4 ⟨x, kx, z, hv, hx, zs, hz⟩ => ⟨x, kx, hv, by decide, ?_⟩
 refine (w0e hc pc a1).mono fun v V5 l5 ⟨y, ky, w, hv, hy, ws, hw⟩ => ⟨y, ky, hv, fun _ => rfl, fun g3 => ⟨fun _ => rfl, fun g4 => ?_⟩⟩
 have h := hz (by simpa using g3)
 have k := hw (by simpa using g4)
 replace hx := hx.le l5
 have unc : ∀ {b : Bk}, b.invE = 0 → b.clear = true := fun {b} h => by
  unfold Bk.invE at h
  cases e : b.clear
  · rw [e] at h; exact absurd h (by decide)
  · rfl
 refine (Q0k hb hc).mono fun v V6 l6 hv => ⟨_, _, hv, ?_⟩
 have ds := f0s (S := 2 ^ 16) zs ws
 refine (G08 (hx.le l6) (hy.le l6) (by omega) (by omega)).mono fun v V7 l7 ⟨r14, e15, hv, d1, d2⟩ => ⟨r14, e15, hv, fun g => ?_, fun _ => ?_⟩
 · have g : c.invE = 0 := by simpa using g
   have cc := unc g
   have nz : w ≠ Cq.zero := fun e => by
    rw [e] at k; unfold Bk.clear at cc; rw [k] at cc; exact absurd cc (by decide)
   obtain ⟨e0, hq⟩ := d2 nz
   refine ⟨fun e => by rw [e0] at e; exact absurd e (by decide), fun _ => ?_⟩
   have e1 : Bk.div b c = b.mul c.inv := by unfold Bk.div; rw [if_pos g]
   rw [e1]
   have m := L0u h k cc
   refine (I06 (Bk.mul_ok _ _) hq (by omega)).mono fun v V8 l8 hv => ⟨_, hv, fun e => by rw [m] at e; exact absurd e (by decide), fun _ => ?_⟩
   have L := View.le_trans l6 (View.le_trans l7 l8)
   exact T0n hb hc (hx.le L) (hy.le L) zs ws h k
 · have L := View.le_trans l6 l7
   exact T0n hb hc (hx.le L) (hy.le L) zs ws h k
