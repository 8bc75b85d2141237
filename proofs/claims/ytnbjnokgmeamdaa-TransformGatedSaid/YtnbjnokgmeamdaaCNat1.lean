/- What the functions of natural numbers come to: trim, natOf, one, cmp, add, sub. -/
import Derived.Test.YtnbjnokgmeamdaaFNat1
import Derived.Test.YtnbjnokgmeamdaaVNat
namespace Go.Proofs.Ytnbjnokgmeamdaa
open Go Go.Vc Go.Proofs

theorem num_trim_spec {V : View} {s : Sl} {l : List Nat} (h : Words V s l) (hs : l.length ≤ 2 ^ 50) :
    CallV Try.prog n_num_trim #[s.v] V fun v V' => ∃ r : Sl, v = r.v ∧ NatAt V' r (wval l) := by
  have hlen := h.len
  refine num_trim_vc s V _ (fun _ x _ => 0 ≤ x.t3 ∧ x.t3 ≤ s.len ∧ ∀ d ∈ l.drop x.t3.toNat, d = 0) (fun _ x _ => x.t3.toNat) ⟨⟨Int.natCast_nonneg _, Int.le_refl _, ?_⟩, ?_⟩
  · intro d hd
    simp only [Int.toNat_natCast, hlen, List.drop_length] at hd
    simp at hd
  rintro ⟨t⟩ V1 hle ⟨h0, h1, h2⟩
  simp only at h0 h1 h2 ⊢
  have hcap := h.cap
  -- what is handed back
  have out : t = 0 ∨ l.getD (t.toNat - 1) 0 ≠ 0 → NatAt V1 (Sl.mk (if Int.toNat t = Int.toNat 0 then s.a else Option.map (fun q => Addr.add q (Int.toNat 0 * 1)) s.a) (Int.toNat t - Int.toNat 0) (Int.toNat t - Int.toNat 0)) (wval l) := by
    intro hz
    have hw : wval l = wval (l.take t.toNat) := by
      rw [wval_drop l t.toNat, wval_zero_of h2]; omega
    rw [hw]
    refine Words.nat ⟨?_, ?_, Nat.le_refl _, h.wb.take _⟩ ?_
    · intro i d hi
      have hi' : i < t.toNat := by
        rcases Nat.lt_or_ge i t.toNat with h | h
        · exact h
        · rw [List.getElem?_eq_none (by simp; omega)] at hi; simp at hi
      rw [List.getElem?_take_of_lt hi'] at hi
      have hne : ¬ Int.toNat t = Int.toNat 0 := by simp only [Int.toNat_zero]; omega
      have := View.load_le hle (h.load i d hi)
      simp only [hne, if_false, Option.map_map]
      have e : ((fun x => x.add i) ∘ fun q => Addr.add q (Int.toNat 0 * 1)) = fun q : Addr => q.add i := by
        funext q; simp [Addr.add]
      rw [e]; exact this
    · simp; omega
    · intro d hd
      rcases hz with rfl | hz
      · simp at hd
      · have h3 : t.toNat ≠ 0 := by
          intro e; rw [e] at hd; simp at hd
        rw [List.getLast?_eq_getElem?] at hd
        have h4 : (l.take t.toNat).length = t.toNat := by simp; omega
        rw [h4, List.getElem?_take_of_lt (by omega)] at hd
        simp only [List.getD, hd, Option.getD_some] at hz
        exact hz
  refine ⟨fun hp => ?_, fun hp => ⟨by simp, fun _ => ⟨⟨by omega, by omega, by omega, by omega⟩, _, rfl, out (.inl ?_)⟩⟩⟩
  · simp only [decide_eq_true_eq] at hp
    rw [i64w (by omega) (by omega)]
    refine ⟨⟨by omega, by omega, h.isSome (by omega)⟩, _, (h.le hle).get (by omega) (by omega), fun hz => ?_, fun hz => ⟨⟨by omega, by omega, by omega, by omega⟩, _, rfl, out (.inr ?_)⟩⟩
    · simp only [beq_iff_eq] at hz
      refine ⟨⟨by omega, by omega, fun d hd => ?_⟩, by omega⟩
      have hlt : (t - 1).toNat < l.length := by omega
      rw [List.drop_eq_getElem_cons hlt] at hd
      rcases List.mem_cons.1 hd with rfl | hd
      · simp only [List.getD, List.getElem?_eq_getElem hlt, Option.getD_some] at hz; omega
      · exact h2 d (by rw [show (t - 1).toNat + 1 = t.toNat by omega] at hd; exact hd)
    · simp only [beq_eq_false_iff_ne, ne_eq] at hz
      rw [show t.toNat - 1 = (t - 1).toNat by omega]
      intro e; rw [e] at hz; exact hz rfl
  · simp only [decide_eq_false_iff_not] at hp; omega

theorem num_natOf_spec {V : View} {n : Int} (h0 : 0 ≤ n) (h1 : n ≤ 18446744073709551615) :
    CallV Try.prog n_num_natOf #[.int .u64 n] V fun v V' => ∃ r : Sl, v = r.v ∧ NatAt V' r n.toNat := by
  refine num_natOf_vc n V _ fun b V1 hle _ hb => ?_
  have e : IntKind.u32.wrap (Int.fdiv n (2 ^ (min (Int.toNat 32) (IntKind.u64.bits)))) = ((n.toNat / 4294967296 : Nat) : Int) := by
    have : (2 : Int) ^ (min (Int.toNat 32) (IntKind.u64.bits)) = 4294967296 := by decide
    rw [this, u32w] <;> rw [Int.fdiv_eq_ediv_of_nonneg _ (by omega)] <;> omega
  have e2 : IntKind.u32.wrap n = ((n.toNat % 4294967296 : Nat) : Int) := by rw [u32m]; omega
  have hw : Words V1 (Sl.mk (some (Addr.mk b 0 none)) 2 2) [n.toNat % 4294967296, n.toNat / 4294967296] :=
    Words.of_block (by rw [hb, e, e2]; rfl) rfl (by omega) (by intro d hd; simp at hd; omega)
  refine (num_trim_spec hw (by simp)).mono fun v V' _ ⟨r, hv, hr⟩ => ⟨r, hv, _, rfl, ?_⟩
  have : wval [n.toNat % 4294967296, n.toNat / 4294967296] = n.toNat := by simp [wval]; omega
  rw [this] at hr; exact hr

theorem nat_one_spec {V : View} {s : Sl} {n : Nat} (h : NatAt V s n) :
    CallV Try.prog n_nat_one #[s.v] V fun v V' => v = .bool (decide (n = 1)) := by
  have hl := h.len
  refine nat_one_vc s V _ ⟨fun h1 => ?_, fun h1 => ?_⟩
  · have h1 : s.len = 1 := by have : (s.len : Int) = 1 := (by simpa using h1); omega
    refine ⟨⟨by omega, by omega, h.isSome (by omega)⟩, _, h.get (by omega) (by omega), ?_⟩
    have hd : dig n = [n] ∧ n ≠ 0 := by
      have h0 : n ≠ 0 := by rintro rfl; simp [dig_zero, h1] at hl
      rw [dig_pos h0] at hl
      have h2 : n / 4294967296 = 0 := by
        rcases Nat.eq_zero_or_pos (n / 4294967296) with h | h
        · exact h
        · rw [dig_pos (by omega)] at hl; simp at hl; omega
      rw [dig_pos h0, h2, dig_zero]
      exact ⟨by congr 1; omega, h0⟩
    rw [hd.1]
    simp only [Int.toNat_zero, List.getD_cons_zero]
    congr 1
    by_cases e : n = 1
    · subst e; rfl
    · have : (n : Int) ≠ 1 := by omega
      simp [e, this]
  · have h1 : s.len ≠ 1 := by have : ¬ (s.len : Int) = 1 := (by simpa using h1); omega
    have : n ≠ 1 := by
      rintro rfl
      apply h1
      rw [hl, dig_pos (by omega)]
      simp [dig_zero]
    simp [this]

theorem dig_len_lt {a b : Nat} (h : (dig a).length < (dig b).length) : a < b := by
  rcases Nat.lt_or_ge a b with h1 | h1
  · exact h1
  · have := wn_mono h1; simp only [wn] at this; omega
theorem dig_inj {a b : Nat} (h : dig a = dig b) : a = b := by rw [← wval_dig a, ← wval_dig b, h]
theorem wval_lt_of {a b : List Nat} {i : Nat} (ha : WB a) (hab : a.length = b.length) (hi : i < a.length) (hd : a.drop (i + 1) = b.drop (i + 1)) (hlt : a.getD i 0 < b.getD i 0) : wval a < wval b := by
  rw [wval_drop a (i + 1), wval_drop b (i + 1), hd, wval_take_succ, wval_take_succ]
  have h1 := wval_lt (ha.take i)
  have e1 : (a.take i).length = i := by simp; omega
  have e2 : (a.take (i + 1)).length = i + 1 := by simp; omega
  have e3 : (b.take (i + 1)).length = i + 1 := by simp; omega
  rw [e1] at h1; rw [e2, e3]
  have := Nat.mul_le_mul_right (4294967296 ^ i) (Nat.succ_le_of_lt hlt)
  rw [Nat.succ_mul] at this
  omega

theorem nat_cmp_spec {V : View} {s t : Sl} {a b : Nat} (hs : NatAt V s a) (ht : NatAt V t b) (hb : wn a ≤ 2 ^ 50) :
    CallV Try.prog n_nat_cmp #[s.v, t.v] V fun v V' => v = .int .i64 (if a < b then -1 else if a = b then 0 else 1) := by
  have h1 := hs.len
  have h2 := ht.len
  simp only [wn] at hb
  refine nat_cmp_vc s t V _ (fun _ x _ => -1 ≤ x.t5 ∧ x.t5 < s.len ∧ (dig a).drop (x.t5 + 1).toNat = (dig b).drop (x.t5 + 1).toNat) (fun _ x _ => (x.t5 + 1).toNat) ⟨fun hne => ⟨fun hlt => ?_, fun hlt => ?_⟩, fun he => ⟨?_, ?_⟩⟩
  · have := dig_len_lt (a := a) (b := b) (by simpa [h1, h2] using hlt)
    simp [this]
  · have hne : ¬ (s.len : Int) = t.len := by simpa using hne
    have hlt : ¬ s.len < t.len := by simpa using hlt
    have := dig_len_lt (a := b) (b := a) (by omega)
    rw [if_neg (by omega), if_neg (by omega)]
  · have he : (s.len : Int) = t.len := by simpa using he
    rw [i64w (by omega) (by omega)]
    refine ⟨?_, ?_, ?_⟩
    · show (-1 : Int) ≤ s.len - 1; omega
    · show (s.len : Int) - 1 < s.len; omega
    · rw [List.drop_eq_nil_of_le, List.drop_eq_nil_of_le] <;> simp <;> omega
  · have he : (s.len : Int) = t.len := by simpa using he
    rintro ⟨i⟩ V1 hle ⟨i0, i1, hd⟩
    simp only at i0 i1 hd ⊢
    refine ⟨fun hp => ?_, fun hp => ?_⟩
    · simp only [ge_iff_le, decide_eq_true_eq] at hp
      refine ⟨⟨by omega, by omega, hs.isSome (by omega)⟩, _, (hs.le hle).get (by omega) (by omega), ⟨by omega, by omega, ht.isSome (by omega)⟩, _, (ht.le hle).get (by omega) (by omega), fun hlt => ?_, fun hlt =>
        ⟨⟨by omega, by omega, hs.isSome (by omega)⟩, _, (hs.le hle).get (by omega) (by omega), ⟨by omega, by omega, ht.isSome (by omega)⟩, _, (ht.le hle).get (by omega) (by omega), fun hgt => ?_, fun hgt => ?_⟩⟩
      · have hlt : (dig a).getD i.toNat 0 < (dig b).getD i.toNat 0 := by simpa using hlt
        have := wval_lt_of (WB_dig a) (by omega) (i := i.toNat) (by omega) (by rw [show i.toNat + 1 = (i + 1).toNat by omega]; exact hd) hlt
        rw [wval_dig, wval_dig] at this
        simp [this]
      · have hgt : (dig b).getD i.toNat 0 < (dig a).getD i.toNat 0 := by simpa using hgt
        have := wval_lt_of (WB_dig b) (by omega) (i := i.toNat) (by omega) (by rw [show i.toNat + 1 = (i + 1).toNat by omega]; exact hd.symm) hgt
        rw [wval_dig, wval_dig] at this
        rw [if_neg (by omega), if_neg (by omega)]
      · have hlt : ¬ (dig a).getD i.toNat 0 < (dig b).getD i.toNat 0 := by simpa using hlt
        have hgt : ¬ (dig b).getD i.toNat 0 < (dig a).getD i.toNat 0 := by simpa using hgt
        rw [i64w (by omega) (by omega)]
        refine ⟨⟨by show (-1 : Int) ≤ i - 1; omega, by show i - 1 < (s.len : Int); omega, ?_⟩, by show (i - 1 + 1).toNat < (i + 1).toNat; omega⟩
        have e : (i - 1 + 1).toNat = i.toNat := by omega
        show (dig a).drop (i - 1 + 1).toNat = (dig b).drop (i - 1 + 1).toNat
        rw [e, List.drop_eq_getElem_cons (by omega : i.toNat < (dig a).length), List.drop_eq_getElem_cons (by omega : i.toNat < (dig b).length)]
        have e2 : i.toNat + 1 = (i + 1).toNat := by omega
        rw [e2, hd]
        congr 1
        simp only [List.getD, List.getElem?_eq_getElem (by omega : i.toNat < (dig a).length), List.getElem?_eq_getElem (by omega : i.toNat < (dig b).length), Option.getD_some] at hlt hgt
        omega
    · simp only [ge_iff_le, decide_eq_false_iff_not] at hp
      have e : (i + 1).toNat = 0 := by omega
      rw [e] at hd
      have := dig_inj (by simpa using hd)
      subst this
      simp

theorem bits_Add32_spec {V : View} {x y c : Nat} (hx : x < 4294967296) (hy : y < 4294967296) (hc : c ≤ 1) :
    CallV Try.prog n_bits_Add32 #[.int .u32 (x : Int), .int .u32 (y : Int), .int .u32 (c : Int)] V fun v V' =>
      v = .tuple #[.int .u32 (((x + y + c) % 4294967296 : Nat) : Int), .int .u32 (((x + y + c) / 4294967296 : Nat) : Int)] := by
  refine bits_Add32_vc _ _ _ V _ ?_
  rw [u64w (by omega : (0:Int) ≤ (x : Int)) (by omega), u64w (by omega : (0:Int) ≤ (y : Int)) (by omega), u64w (by omega : (0:Int) ≤ (c : Int)) (by omega),
    u64w (by omega : (0:Int) ≤ (x : Int) + y) (by omega), u64w (by omega : (0:Int) ≤ (x : Int) + y + c) (by omega)]
  have : (2 : Int) ^ (min (Int.toNat 32) (IntKind.u64.bits)) = 4294967296 := by decide
  rw [this, Int.fdiv_eq_ediv_of_nonneg _ (by omega), u32m, u32w (by omega) (by omega)]
  congr 2

theorem nat_add_spec {V : View} {s t : Sl} {a b : Nat} (hs : NatAt V s a) (ht : NatAt V t b) (ha : wn a ≤ 2 ^ 45) (hb : wn b ≤ 2 ^ 45) :
    CallV Try.prog n_nat_add #[s.v, t.v] V fun v V' => ∃ r : Sl, v = r.v ∧ NatAt V' r (a + b) := by
  refine nat_add_vc s t V _ (fun _ x V' => ∃ a' b', NatAt V' x.t0 a' ∧ NatAt V' x.t1 b' ∧ a' + b' = a + b ∧ wn a' ≤ 2 ^ 45 ∧ x.t1.len ≤ x.t0.len)
    (fun c x V' => ∃ a' b' l k, NatAt V' c.t0 a' ∧ NatAt V' c.t1 b' ∧ a' + b' = a + b ∧ c.t1.len ≤ c.t0.len ∧ x.o19 = wv l ∧ WB l ∧ l.length = c.t0.len + 1 ∧ x.t6 = (k : Nat) ∧ k ≤ 1 ∧ 0 ≤ x.t22 ∧ x.t22 ≤ c.t0.len ∧
      wval (l.take x.t22.toNat) + k * 4294967296 ^ x.t22.toNat = wval ((dig a').take x.t22.toNat) + wval ((dig b').take x.t22.toNat))
    (fun c x _ => (c.t0.len - x.t22).toNat) ⟨⟨fun h => ⟨b, a, ht, hs, by omega, hb, ?_⟩, fun h => ⟨a, b, hs, ht, rfl, ha, ?_⟩⟩, ?_⟩
  · have : s.len < t.len := by simpa using h
    exact Nat.le_of_lt this
  · have : ¬ s.len < t.len := by simpa using h
    exact Nat.le_of_not_lt this
  rintro ⟨x, y⟩ V1 hle ⟨a', b', hx, hy, hab, hwa, hlen⟩
  simp only at hx hy hlen ⊢
  have hxl := hx.len
  have hyl := hy.len
  simp only [wn] at hwa
  rw [i64w (n := (x.len : Int) + 1) (by omega) (by omega)]
  refine ⟨⟨by omega, by omega, by omega, by omega⟩, ⟨a', b', List.replicate (x.len + 1) 0, 0, hx, hy, hab, hlen, ?_, WB.zeros _, by simp, rfl, by omega, Int.le_refl _, by show (0 : Int) ≤ x.len; omega, by simp [wval]⟩, ?_⟩
  · show (List.replicate (Int.toNat ((x.len : Int) + 1)) [Value.int .u32 0]).flatten = _
    rw [show Int.toNat ((x.len : Int) + 1) = x.len + 1 by omega, wv_zeros]
  rintro ⟨k, i, o⟩ V2 hle2 ⟨a2, b2, l, k', hx2, hy2, hab2, _, ho, hwb, hl, hk, hk1, hi0, hi1, hval⟩
  simp only at ho hk hi0 hi1 hval hx2 hy2 hl ⊢
  obtain rfl := hx2.inj (hx.le hle2)
  obtain rfl := hy2.inj (hy.le hle2)
  subst hk
  refine ⟨fun hp => ?_, fun hp => ?_⟩
  · simp only [decide_eq_true_eq] at hp
    -- one more word, whatever stands there in the shorter one
    have step : ∀ (r c : Nat) (V3 : View), View.le V2 V3 → r + c * 4294967296 = (dig a2).getD i.toNat 0 + (dig b2).getD i.toNat 0 + k' → r < 4294967296 → c ≤ 1 →
        (∃ a' b' l k, NatAt V3 x a' ∧ NatAt V3 y b' ∧ a' + b' = a + b ∧ y.len ≤ x.len ∧ List.set o (0 + Int.toNat i * 1) (.int .u32 (r : Nat)) = wv l ∧ WB l ∧ l.length = x.len + 1 ∧ (c : Int) = (k : Nat) ∧ k ≤ 1 ∧ 0 ≤ i + 1 ∧ i + 1 ≤ x.len ∧
          wval (l.take (i + 1).toNat) + k * 4294967296 ^ (i + 1).toNat = wval ((dig a').take (i + 1).toNat) + wval ((dig b').take (i + 1).toNat)) := by
      intro r c V3 hle3 hrc hr hc
      refine ⟨a2, b2, l.set i.toNat r, c, hx2.le hle3, hy2.le hle3, hab, hlen, ?_, hwb.set hr, by simpa using hl, rfl, hc, by omega, by omega, ?_⟩
      · rw [ho, show 0 + Int.toNat i * 1 = i.toNat by omega, wv_set]
      · rw [show (i + 1).toNat = i.toNat + 1 by omega, wval_take_set (by omega), wval_take_succ, wval_take_succ, Nat.pow_succ]
        have := congrArg (· * 4294967296 ^ i.toNat) hrc
        simp only [Nat.add_mul] at this
        grind
    refine ⟨fun hp2 => ?_, fun hp2 => ?_⟩
    · simp only [decide_eq_true_eq] at hp2
      refine ⟨⟨by omega, by omega, hy.isSome (by omega)⟩, _, hy2.get (by omega) (by omega), ⟨by omega, by omega, hx.isSome (by omega)⟩, _, hx2.get (by omega) (by omega), ?_⟩
      have w1 := hx2.getD_lt i.toNat
      have w2 := hy2.getD_lt i.toNat
      refine (bits_Add32_spec w1 w2 hk1).mono fun v V3 hle3 hv => ⟨_, _, hv, ⟨by omega, by omega⟩, by rw [ho, wv_length]; omega, ?_⟩
      rw [i64w (n := i + 1) (by omega) (by omega)]
      obtain ⟨a3, b3, l3, k3, g⟩ := step (((dig a2).getD i.toNat 0 + (dig b2).getD i.toNat 0 + k') % 4294967296) (((dig a2).getD i.toNat 0 + (dig b2).getD i.toNat 0 + k') / 4294967296) V3 hle3 (by omega) (by omega) (by omega)
      exact ⟨⟨a3, b3, l3, k3, g⟩, by show ((x.len : Int) - (i + 1)).toNat < ((x.len : Int) - i).toNat; omega⟩
    · simp only [decide_eq_false_iff_not] at hp2
      refine ⟨⟨by omega, by omega, hx.isSome (by omega)⟩, _, hx2.get (by omega) (by omega), ?_⟩
      have w1 := hx2.getD_lt i.toNat
      have w2 : (dig b2).getD i.toNat 0 = 0 := by simp only [List.getD]; rw [List.getElem?_eq_none (by omega)]; rfl
      refine (bits_Add32_spec w1 (by omega : 0 < 4294967296) hk1).mono fun v V3 hle3 hv => ⟨_, _, hv, ⟨by omega, by omega⟩, by rw [ho, wv_length]; omega, ?_⟩
      rw [i64w (n := i + 1) (by omega) (by omega)]
      obtain ⟨a3, b3, l3, k3, g⟩ := step (((dig a2).getD i.toNat 0 + 0 + k') % 4294967296) (((dig a2).getD i.toNat 0 + 0 + k') / 4294967296) V3 hle3 (by omega) (by omega) (by omega)
      exact ⟨⟨a3, b3, l3, k3, g⟩, by show ((x.len : Int) - (i + 1)).toNat < ((x.len : Int) - i).toNat; omega⟩
  · simp only [decide_eq_false_iff_not] at hp
    refine ⟨⟨by omega, by omega⟩, by rw [ho, wv_length]; omega, fun b1 V5 hle5 hb => ?_⟩
    have hi : i.toNat = x.len := by omega
    have hw : Words V5 (Sl.mk (some (Addr.mk b1 0 none)) (Int.toNat ((x.len : Int) + 1)) (Int.toNat ((x.len : Int) + 1))) (l.set x.len k') :=
      Words.of_block (by rw [hb, ho, show 0 + Int.toNat (x.len : Int) * 1 = x.len by omega, wv_set]) (by simp; omega) (Nat.le_refl _) (hwb.set (by omega))
    refine (num_trim_spec hw (by simp; omega)).mono fun v V6 _ ⟨r, hv, hr⟩ => ⟨r, hv, r, rfl, ?_⟩
    have e : wval (l.set x.len k') = a + b := by
      have h1 : (l.set x.len k') = (l.set x.len k').take (x.len + 1) := by rw [List.take_of_length_le]; simp; omega
      rw [h1, wval_take_set (by omega)]
      rw [hi, wval_take_all (l := dig a2) (by omega), wval_take_all (l := dig b2) (by omega), wval_dig, wval_dig] at hval
      omega
    rw [e] at hr; exact hr

end Go.Proofs.Ytnbjnokgmeamdaa
