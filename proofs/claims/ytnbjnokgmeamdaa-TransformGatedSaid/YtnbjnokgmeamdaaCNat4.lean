/- What the functions of natural numbers come to: shl, shr. -/
import Derived.Test.YtnbjnokgmeamdaaCNat3
namespace Go.Proofs.Ytnbjnokgmeamdaa
open Go Go.Vc Go.Proofs

theorem pow_words (n : Nat) : 2 ^ n = 2 ^ (n % 32) * 4294967296 ^ (n / 32) := by
  have e : (4294967296 : Nat) = 2 ^ 32 := by decide
  rw [e, ← Nat.pow_mul, ← Nat.pow_add]
  congr 1; omega
theorem shp64 {r : Nat} (h : r ≤ 64) : (2 : Int) ^ (min r (IntKind.bits .u64)) = ((2 ^ r : Nat) : Int) := by
  have e : IntKind.bits .u64 = 64 := rfl
  rw [e, Nat.min_eq_left h]; simp

theorem nat_shl_spec {V : View} {s : Sl} {a n : Nat} (hs : NatAt V s a) (ha : wn a ≤ 2 ^ 44) (hn : n ≤ 2 ^ 44) :
    CallV Try.prog n_nat_shl #[s.v, .int .i64 (n : Int)] V fun v V' => ∃ r : Sl, v = r.v ∧ NatAt V' r (a * 2 ^ n) := by
  have hsl := hs.len
  have hs0 : s.len = 0 → a = 0 := fun h => wn_eq_zero.1 (by simp only [wn]; omega)
  simp only [wn] at ha
  obtain ⟨W, hW⟩ : ∃ W, W = n / 32 := ⟨_, rfl⟩
  obtain ⟨R, hR⟩ : ∃ R, R = 2 ^ (n % 32) := ⟨_, rfl⟩
  have hR1 : R ≤ 2147483648 := by rw [hR]; exact Nat.pow_le_pow_right (by omega) (show n % 32 ≤ 31 by omega)
  obtain ⟨Q, hQ⟩ : ∃ Q, R * Q = 4294967296 := ⟨2 ^ (32 - n % 32), by rw [hR, ← Nat.pow_add, show n % 32 + (32 - n % 32) = 32 by omega]⟩
  refine nat_shl_vc s n V _ (fun _ _ _ => True)
    (fun _ x _ => ∃ (i : Nat) (l : List Nat), x = L_nat_shl_1.mk (i : Nat) (wv l) ∧ i ≤ s.len ∧ WB l ∧ l.length = s.len + W + 1 ∧ seg l 0 (i + W + 1) = wval ((dig a).take i) * R * 4294967296 ^ W ∧ l.getD (i + W) 0 < R)
    (fun _ x _ => (s.len - x.t32).toNat)
    ⟨⟨fun h => ⟨fun _ => ⟨s, rfl, by have h : (s.len : Int) = 0 := (by simpa using h); have := hs0 (by omega); subst this; simpa using hs⟩, fun h => by cases h⟩,
      fun _ => ⟨fun h => ⟨s, rfl, by have h : n = 0 := (by simpa using h); subst h; simpa using hs⟩, fun _ => trivial⟩⟩, ?_⟩
  rintro _ V1 hle1 _
  rw [td32, tm32, ← hW, i64w (n := (W : Int)) (by omega) (by omega), i64w (n := (s.len : Int) + W) (by omega) (by omega), i64w (n := (s.len : Int) + W + 1) (by omega) (by omega),
    u64w (n := ((n % 32 : Nat) : Int)) (by omega) (by omega), Int.toNat_natCast, shp64 (show n % 32 ≤ 64 by omega), ← hR]
  have hN : Int.toNat ((s.len : Int) + W + 1) = s.len + W + 1 := by omega
  rw [hN]
  refine ⟨⟨by omega, by omega, by omega, by omega⟩, ⟨0, List.replicate (s.len + W + 1) 0, ?_, by omega, WB.zeros _, by simp, ?_, ?_⟩, ?_⟩
  · rw [wv_zeros]; rfl
  · rw [seg_rep]; simp [wval]
  · have : (List.replicate (s.len + W + 1) 0).getD (0 + W) 0 = 0 := by simp only [List.getD, List.getElem?_replicate]; split <;> rfl
    rw [this, hR]; exact Nat.two_pow_pos _
  rintro _ V2 hle2 ⟨i, l, rfl, hi, hwb, hl, hval, hlt⟩
  refine ⟨fun hp => ?_, fun hp b1 V4 hle4 hb1 => ?_⟩
  · simp only [decide_eq_true_eq] at hp
    have hai := (WB_dig a).getD i
    have hW2 := hwb.getD (i + W)
    simp only [Int.toNat_natCast]
    rw [i64w (n := (i : Int) + W) (by omega) (by omega), i64w (n := (i : Int) + W + 1) (by omega) (by omega), i64w (n := (i : Int) + 1) (by omega) (by omega)]
    have e1 : Int.toNat ((i : Int) + W) = i + W := by omega
    have e2 : Int.toNat ((i : Int) + W + 1) = i + W + 1 := by omega
    rw [e1, e2, show 0 + (i + W) * 1 = i + W by omega, show 0 + (i + W + 1) * 1 = i + W + 1 by omega]
    refine ⟨⟨by omega, hp, hs.isSome (by omega)⟩, _, (hs.le (View.le_trans hle1 hle2)).get (i := (i : Nat)) (by omega) hp, by omega, ⟨by omega, by omega⟩, ((l.getD (i + W) 0 : Nat) : Int), wv_get (by omega), ⟨by omega, by omega⟩, by rw [wv_length]; omega, ⟨by omega, by omega⟩, by simp only [List.length_set, wv_length]; omega, ?_⟩
    simp only [Int.toNat_natCast]
    generalize hA : (dig a).getD i 0 = A at *
    have hm : A * R ≤ 4294967295 * 2147483648 := Nat.mul_le_mul (by omega) hR1
    rw [u64w (n := (A : Int)) (by omega) (by omega), ← Int.natCast_mul, u64w (n := ((A * R : Nat) : Int)) (by omega) (by omega)]
    have e3 : (2 : Int) ^ (min (Int.toNat 32) (IntKind.u64.bits)) = 4294967296 := by decide
    rw [e3, Int.fdiv_eq_ediv_of_nonneg _ (by omega)]
    have e4 : IntKind.u32.wrap (((A * R : Nat) : Int) / 4294967296) = ((A * R / 4294967296 : Nat) : Int) := by rw [u32w (by omega) (by omega)]; omega
    have e5 : IntKind.u32.wrap ((A * R : Nat) : Int) = ((A * R % 4294967296 : Nat) : Int) := by rw [u32m]; omega
    have e6 : A * R % 4294967296 = (A % Q) * R := by
      rw [← hQ, Nat.mul_comm A R, Nat.mul_mod_mul_left, Nat.mul_comm]
    have hhi : A * R / 4294967296 < R := by
      rw [Nat.div_lt_iff_lt_mul (by omega), Nat.mul_comm]
      exact Nat.mul_lt_mul_of_pos_left (by omega) (by rw [hR]; exact Nat.two_pow_pos _)
    have hlo : l.getD (i + W) 0 + A * R % 4294967296 < 4294967296 := by
      rw [e6]
      have h0 : 0 < Q := by rcases Nat.eq_zero_or_pos Q with h | h; · subst h; simp at hQ
                            · exact h
      have h1 : A % Q + 1 ≤ Q := Nat.mod_lt _ h0
      have h2 := Nat.mul_le_mul_right R h1
      rw [Nat.succ_mul, Nat.mul_comm Q R, hQ] at h2
      omega
    rw [e4, e5, or32v hW2 (Nat.mod_lt _ (by omega)), e6]
    have hor : (l.getD (i + W) 0 ||| A % Q * R) = l.getD (i + W) 0 + A % Q * R := by
      rw [hR] at hlt ⊢; exact orDisj hlt
    rw [hor, ← e6, u32w (by omega) (by omega), wv_set, wv_set]
    refine ⟨⟨i + 1, (l.set (i + W) (l.getD (i + W) 0 + A * R % 4294967296)).set (i + W + 1) (A * R / 4294967296), rfl, by omega, (hwb.set (by omega)).set (by omega), by simpa using hl, ?_, ?_⟩, by show ((s.len : Int) - ((i : Int) + 1)).toNat < ((s.len : Int) - i).toNat; omega⟩
    · rw [show i + 1 + W + 1 = (i + W + 1) + 1 by omega, seg_set_last (by omega) (by simp; omega)]
      have h1 := seg_set (l := l) (p := i + W) (d := l.getD (i + W) 0 + A * R % 4294967296) (j := 0) (k := i + W + 1) (by omega) (by omega) (by omega)
      rw [Nat.sub_zero, hval] at h1
      rw [wval_take_succ, hA, Nat.pow_succ]
      have h2 : A * R % 4294967296 + A * R / 4294967296 * 4294967296 = A * R := by omega
      have h3 := congrArg (· * 4294967296 ^ (i + W)) h2
      simp only [Nat.add_mul] at h1 h3 ⊢
      have h4 : A * 4294967296 ^ i * R * 4294967296 ^ W = A * R * 4294967296 ^ (i + W) := by rw [Nat.pow_add]; grind
      have h5 : ∀ q, q * (4294967296 ^ (i + W) * 4294967296) = q * 4294967296 * 4294967296 ^ (i + W) := by intro q; grind
      rw [h4, h5]
      omega
    · rw [getD_set, if_pos ⟨by omega, by simp; omega⟩]; exact hhi
  · simp only [decide_eq_false_iff_not] at hp
    have hi' : i = s.len := by omega
    subst hi'
    rw [seg_all (by omega), wval_take_all (l := dig a) (by omega), wval_dig] at hval
    have hw : Words V4 (Sl.mk (some (Addr.mk b1 0 none)) (s.len + W + 1) (s.len + W + 1)) l := Words.of_block hb1 (by omega) (Nat.le_refl _) hwb
    refine (num_trim_spec hw (by omega)).mono fun v V6 _ ⟨r, hv, hr⟩ => ⟨r, hv, r, rfl, ?_⟩
    rw [hval, Nat.mul_assoc, hR, hW, ← pow_words] at hr; exact hr

theorem dig_div_mod (a i : Nat) : a / 4294967296 ^ i % (4294967296 * 4294967296) = (dig a).getD i 0 + 4294967296 * (dig a).getD (i + 1) 0 := by
  rw [Nat.mod_mul, dig_getD, dig_getD, Nat.pow_succ, Nat.div_div_eq_div_mul]

theorem shr_word {a W i R Q : Nat} (hQ : R * Q = 4294967296) (hR : 0 < R) :
    ((dig a).getD (W + i) 0 + 4294967296 * (dig a).getD (W + i + 1) 0) / R % 4294967296 = (a / (4294967296 ^ W * R)) / 4294967296 ^ i % 4294967296 := by
  have h0 : 4294967296 * 4294967296 = R * (4294967296 * Q) := by rw [← Nat.mul_assoc, Nat.mul_comm R, Nat.mul_assoc, hQ]
  rw [← dig_div_mod, h0, Nat.mod_mul_right_div_self, Nat.mod_mul_right_mod]
  rw [Nat.div_div_eq_div_mul, Nat.div_div_eq_div_mul, Nat.pow_add]
  congr 2
  grind

theorem nat_shr_spec {V : View} {s : Sl} {a n : Nat} (hs : NatAt V s a) (ha : wn a ≤ 2 ^ 44) (hn : n ≤ 2 ^ 44) :
    CallV Try.prog n_nat_shr #[s.v, .int .i64 (n : Int)] V fun v V' => ∃ r : Sl, v = r.v ∧ NatAt V' r (a / 2 ^ n) := by
  have hsl := hs.len
  have hwn : wn a = s.len := by simp only [wn]; exact hsl.symm
  have haw := lt_wn a
  rw [hwn] at ha haw
  obtain ⟨W, hW⟩ : ∃ W, W = n / 32 := ⟨_, rfl⟩
  obtain ⟨R, hR⟩ : ∃ R, R = 2 ^ (n % 32) := ⟨_, rfl⟩
  have hR0 : 0 < R := by rw [hR]; exact Nat.two_pow_pos _
  obtain ⟨Q, hQ⟩ : ∃ Q, R * Q = 4294967296 := ⟨2 ^ (32 - n % 32), by rw [hR, ← Nat.pow_add, show n % 32 + (32 - n % 32) = 32 by omega]⟩
  have hpow : 2 ^ n = 4294967296 ^ W * R := by rw [hR, hW, Nat.mul_comm, ← pow_words]
  refine nat_shr_vc s n V _
    (fun _ x _ => ∃ (i : Nat) (l : List Nat), x = L_nat_shr_0.mk (i : Nat) (wv l) ∧ i ≤ s.len - W ∧ WB l ∧ l.length = s.len - W ∧ seg l 0 i = a / 2 ^ n % 4294967296 ^ i)
    (fun _ x _ => (s.len - x.t26).toNat) ?_
  rw [td32, tm32, ← hW, i64w (n := (W : Int)) (by omega) (by omega)]
  refine ⟨fun h => ⟨_, rfl, ?_⟩, fun h => ?_⟩
  · simp only [ge_iff_le, decide_eq_true_eq] at h
    have : a / 2 ^ n = 0 := by
      refine Nat.div_eq_of_lt (Nat.lt_of_lt_of_le haw ?_)
      rw [hpow]
      have h1 : 4294967296 ^ s.len ≤ 4294967296 ^ W := Nat.pow_le_pow_right (by omega) (by omega)
      have := Nat.mul_le_mul_left (4294967296 ^ W) hR0
      omega
    rw [this]; exact NatAt.zero V
  simp only [ge_iff_le, decide_eq_false_iff_not] at h
  rw [i64w (n := (s.len : Int) - W) (by omega) (by omega), u64w (n := ((n % 32 : Nat) : Int)) (by omega) (by omega), Int.toNat_natCast, shp64 (show n % 32 ≤ 64 by omega), ← hR]
  have hN : Int.toNat ((s.len : Int) - W) = s.len - W := by omega
  rw [hN]
  refine ⟨⟨by omega, by omega, by omega, by omega⟩, ⟨0, List.replicate (s.len - W) 0, ?_, by omega, WB.zeros _, by simp, ?_⟩, ?_⟩
  · rw [wv_zeros]; rfl
  · simp [seg_zero, Nat.mod_one]
  rintro _ V2 hle2 ⟨i, l, rfl, hi, hwb, hl, hval⟩
  refine ⟨fun hp => ?_, fun hp b1 V4 hle4 hb1 => ?_⟩
  · simp only [decide_eq_true_eq] at hp
    simp only [Int.toNat_natCast]
    rw [i64w (n := (i : Int) + W) (by omega) (by omega), i64w (n := (i : Int) + W + 1) (by omega) (by omega), i64w (n := (i : Int) + 1) (by omega) (by omega)]
    have w1 := (WB_dig a).getD (W + i)
    have w2 := (WB_dig a).getD (W + i + 1)
    have e1 : Int.toNat ((i : Int) + W) = W + i := by omega
    have e2 : Int.toNat ((i : Int) + W + 1) = W + i + 1 := by omega
    have e3 : (2 : Int) ^ (min (Int.toNat 32) (IntKind.u64.bits)) = 4294967296 := by decide
    have word := shr_word (a := a) (W := W) (i := i) hQ hR0
    rw [← hpow] at word
    have step : ∀ z : Nat, z = (dig a).getD (W + i) 0 + 4294967296 * (dig a).getD (W + i + 1) 0 →
        (∃ (i' : Nat) (l' : List Nat), L_nat_shr_0.mk ((i : Int) + 1) ((wv l).set (0 + i * 1) (.int .u32 (IntKind.u32.wrap (Int.fdiv (z : Int) (R : Nat))))) = L_nat_shr_0.mk (i' : Nat) (wv l') ∧ i' ≤ s.len - W ∧ WB l' ∧ l'.length = s.len - W ∧ seg l' 0 i' = a / 2 ^ n % 4294967296 ^ i') := by
      intro z hz
      have ez : IntKind.u32.wrap (Int.fdiv (z : Int) (R : Nat)) = ((a / 2 ^ n / 4294967296 ^ i % 4294967296 : Nat) : Int) := by
        rw [Int.fdiv_eq_ediv_of_nonneg _ (by omega), u32m, ← word, ← hz]; rfl
      rw [ez, show 0 + i * 1 = i by omega, wv_set]
      refine ⟨i + 1, _, rfl, by omega, hwb.set (Nat.mod_lt _ (by omega)), by simpa using hl, ?_⟩
      rw [seg_set_last (by omega) (by omega), hval, Nat.pow_succ, Nat.mod_mul, Nat.mul_comm (4294967296 ^ i)]
    have hme : ((s.len : Int) - ((i : Int) + 1)).toNat < ((s.len : Int) - i).toNat := by omega
    have g1 := (hs.le hle2).get (i := (i : Int) + W) (by omega) (by omega)
    rw [e1] at g1 ⊢
    refine ⟨⟨by omega, by omega, hs.isSome (by omega)⟩, _, g1, fun hq => ?_, fun hq => ?_⟩
    · simp only [decide_eq_true_eq] at hq
      have g2 := (hs.le hle2).get (i := (i : Int) + W + 1) (by omega) (by omega)
      rw [e2] at g2 ⊢
      refine ⟨⟨by omega, by omega, hs.isSome (by omega)⟩, _, g2, by omega, ⟨by omega, by omega⟩, by rw [wv_length]; omega, ?_⟩
      rw [e3, u64w (n := (((dig a).getD (W + i) 0 : Nat) : Int)) (by omega) (by omega), u64w (n := (((dig a).getD (W + i + 1) 0 : Nat) : Int)) (by omega) (by omega), u64w (n := (((dig a).getD (W + i + 1) 0 : Nat) : Int) * 4294967296) (by omega) (by omega),
        show (((dig a).getD (W + i + 1) 0 : Nat) : Int) * 4294967296 = (((dig a).getD (W + i + 1) 0 * 4294967296 : Nat) : Int) by omega, or64' w1 w2, u64w (by omega) (by omega)]
      exact ⟨step _ (by omega), hme⟩
    · simp only [decide_eq_false_iff_not] at hq
      refine ⟨by omega, ⟨by omega, by omega⟩, by rw [wv_length]; omega, ?_⟩
      rw [u64w (n := (((dig a).getD (W + i) 0 : Nat) : Int)) (by omega) (by omega)]
      have h0 : (dig a).getD (W + i + 1) 0 = 0 := by simp only [List.getD]; rw [List.getElem?_eq_none (by omega)]; rfl
      exact ⟨step _ (by omega), hme⟩
  · simp only [decide_eq_false_iff_not] at hp
    have hi' : i = s.len - W := by omega
    subst hi'
    have hw : Words V4 (Sl.mk (some (Addr.mk b1 0 none)) (s.len - W) (s.len - W)) l := Words.of_block hb1 (by omega) (Nat.le_refl _) hwb
    refine (num_trim_spec hw (by omega)).mono fun v V6 _ ⟨r, hv, hr⟩ => ⟨r, hv, r, rfl, ?_⟩
    rw [seg_all (by omega)] at hval
    have hlt : a / 2 ^ n < 4294967296 ^ (s.len - W) := by
      rw [hpow, ← Nat.div_div_eq_div_mul]
      refine Nat.lt_of_le_of_lt (Nat.div_le_self _ _) ?_
      rw [Nat.div_lt_iff_lt_mul (Nat.pow_pos (by omega)), ← Nat.pow_add, show s.len - W + W = s.len by omega]
      exact haw
    rw [hval, Nat.mod_eq_of_lt hlt] at hr; exact hr

end Go.Proofs.Ytnbjnokgmeamdaa
