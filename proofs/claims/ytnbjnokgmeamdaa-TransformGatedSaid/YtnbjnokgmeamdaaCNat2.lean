/- What the functions of natural numbers come to: Sub32, sub, mul. -/
import Derived.Test.YtnbjnokgmeamdaaCNat1
import Derived.Test.YtnbjnokgmeamdaaVBit
namespace Go.Proofs.Ytnbjnokgmeamdaa
open Go Go.Vc Go.Proofs

theorem bits_Sub32_spec {V : View} {x y b : Nat} (hx : x < 4294967296) (hy : y < 4294967296) (hb : b ≤ 1) :
    CallV Try.prog n_bits_Sub32 #[.int .u32 (x : Int), .int .u32 (y : Int), .int .u32 (b : Int)] V fun v V' =>
      v = .tuple #[.int .u32 (((x + 8589934592 - y - b) % 4294967296 : Nat) : Int), .int .u32 ((if x < y + b then 1 else 0 : Nat) : Int)] := by
  refine bits_Sub32_vc _ _ _ V _ ?_
  have hd : IntKind.u32.wrap ((IntKind.u32.wrap ((x : Int) - y)) - b) = ((x + 8589934592 - y - b) % 4294967296 : Nat) := by
    rw [u32m, u32m]; omega
  rw [hd]
  simp only [wrap32_toNat, ofInt_toNat']
  rw [shr63]
  refine congrArg (fun n : Nat => Value.tuple #[_, .int .u32 (n : Int)]) (sub32_msb hx hy hb _ _ _ ?_ ?_ ?_ _ ?_)
  · exact of32 hx
  · exact of32 hy
  · exact of32 (Nat.mod_lt _ (by decide))
  · show BitVec.ofInt 32 4294967295 = _
    decide

theorem nat_sub_spec {V : View} {s t : Sl} {a b : Nat} (hs : NatAt V s a) (ht : NatAt V t b) (ha : wn a ≤ 2 ^ 45) (hba : b ≤ a) :
    CallV Try.prog n_nat_sub #[s.v, t.v] V fun v V' => ∃ r : Sl, v = r.v ∧ NatAt V' r (a - b) := by
  have hsl := hs.len
  have htl := ht.len
  have hwn := wn_mono hba
  simp only [wn] at ha hwn
  refine nat_sub_vc s t V _
    (fun _ x V' => ∃ l k : _, x.o11 = wv l ∧ WB l ∧ l.length = s.len ∧ x.t6 = (k : Nat) ∧ k ≤ 1 ∧ 0 ≤ x.t14 ∧ x.t14 ≤ s.len ∧
      wval (l.take x.t14.toNat) + wval ((dig b).take x.t14.toNat) = wval ((dig a).take x.t14.toNat) + k * 4294967296 ^ x.t14.toNat)
    (fun _ x _ => (s.len - x.t14).toNat) ⟨⟨by omega, by omega, by omega, by omega⟩, ⟨List.replicate s.len 0, 0, ?_, WB.zeros _, by simp, rfl, by omega, Int.le_refl _, by show (0 : Int) ≤ s.len; omega, by simp [wval]⟩, ?_⟩
  · show (List.replicate (Int.toNat (s.len : Int)) [Value.int .u32 0]).flatten = _
    rw [Int.toNat_natCast, wv_zeros]
  rintro ⟨k, i, o⟩ V2 hle2 ⟨l, k', ho, hwb, hl, hk, hk1, hi0, hi1, hval⟩
  simp only at ho hk hi0 hi1 hval hl ⊢
  subst hk
  have hx2 := hs.le hle2
  have hy2 := ht.le hle2
  refine ⟨fun hp => ?_, fun hp => ?_⟩
  · simp only [decide_eq_true_eq] at hp
    have step : ∀ (r c : Nat) (V3 : View), r + (dig b).getD i.toNat 0 + k' = (dig a).getD i.toNat 0 + c * 4294967296 → r < 4294967296 → c ≤ 1 →
        (∃ l k : _, List.set o (0 + Int.toNat i * 1) (.int .u32 (r : Nat)) = wv l ∧ WB l ∧ l.length = s.len ∧ (c : Int) = (k : Nat) ∧ k ≤ 1 ∧ 0 ≤ i + 1 ∧ i + 1 ≤ s.len ∧
          wval (l.take (i + 1).toNat) + wval ((dig b).take (i + 1).toNat) = wval ((dig a).take (i + 1).toNat) + k * 4294967296 ^ (i + 1).toNat) := by
      intro r c V3 hrc hr hc
      refine ⟨l.set i.toNat r, c, ?_, hwb.set hr, by simpa using hl, rfl, hc, by omega, by omega, ?_⟩
      · rw [ho, show 0 + Int.toNat i * 1 = i.toNat by omega, wv_set]
      · rw [show (i + 1).toNat = i.toNat + 1 by omega, wval_take_set (by omega), wval_take_succ, wval_take_succ, Nat.pow_succ]
        have := congrArg (· * 4294967296 ^ i.toNat) hrc
        simp only [Nat.add_mul] at this
        grind
    have w1 := hx2.getD_lt i.toNat
    have w2 := hy2.getD_lt i.toNat
    refine ⟨fun hp2 => ?_, fun hp2 => ?_⟩
    · simp only [decide_eq_true_eq] at hp2
      refine ⟨⟨by omega, by omega, ht.isSome (by omega)⟩, _, hy2.get (by omega) (by omega), ⟨by omega, by omega, hs.isSome (by omega)⟩, _, hx2.get (by omega) (by omega), ?_⟩
      refine (bits_Sub32_spec w1 w2 hk1).mono fun v V3 hle3 hv => ⟨_, _, hv, ⟨by omega, by omega⟩, by rw [ho, wv_length]; omega, ?_⟩
      rw [i64w (n := i + 1) (by omega) (by omega)]
      obtain ⟨l3, k3, g⟩ := step (((dig a).getD i.toNat 0 + 8589934592 - (dig b).getD i.toNat 0 - k') % 4294967296) (if (dig a).getD i.toNat 0 < (dig b).getD i.toNat 0 + k' then 1 else 0) V3 (by split <;> omega) (by omega) (by split <;> omega)
      exact ⟨⟨l3, k3, g⟩, by show ((s.len : Int) - (i + 1)).toNat < ((s.len : Int) - i).toNat; omega⟩
    · simp only [decide_eq_false_iff_not] at hp2
      refine ⟨⟨by omega, by omega, hs.isSome (by omega)⟩, _, hx2.get (by omega) (by omega), ?_⟩
      have w2 : (dig b).getD i.toNat 0 = 0 := by simp only [List.getD]; rw [List.getElem?_eq_none (by omega)]; rfl
      refine (bits_Sub32_spec w1 (by omega : 0 < 4294967296) hk1).mono fun v V3 hle3 hv => ⟨_, _, hv, ⟨by omega, by omega⟩, by rw [ho, wv_length]; omega, ?_⟩
      rw [i64w (n := i + 1) (by omega) (by omega)]
      obtain ⟨l3, k3, g⟩ := step (((dig a).getD i.toNat 0 + 8589934592 - 0 - k') % 4294967296) (if (dig a).getD i.toNat 0 < 0 + k' then 1 else 0) V3 (by split <;> omega) (by omega) (by split <;> omega)
      exact ⟨⟨l3, k3, g⟩, by show ((s.len : Int) - (i + 1)).toNat < ((s.len : Int) - i).toNat; omega⟩
  · simp only [decide_eq_false_iff_not] at hp
    intro b1 V5 hle5 hb
    have hi : i.toNat = s.len := by omega
    have hw : Words V5 (Sl.mk (some (Addr.mk b1 0 none)) (Int.toNat (s.len : Int)) (Int.toNat (s.len : Int))) l :=
      Words.of_block (by rw [hb, ho]) (by omega) (Nat.le_refl _) hwb
    refine (num_trim_spec hw (by omega)).mono fun v V6 _ ⟨r, hv, hr⟩ => ⟨r, hv, r, rfl, ?_⟩
    rw [hi, wval_take_all (l := dig a) (by omega), wval_take_all (l := dig b) (by omega), wval_take_all (by omega), wval_dig, wval_dig] at hval
    have h3 := wval_lt hwb
    have e : wval l = a - b := by
      rcases Nat.eq_zero_or_pos k' with h0 | h0
      · subst h0; omega
      · have : k' = 1 := by omega
        subst this
        rw [hl] at h3
        omega
    rw [e] at hr; exact hr

theorem mul_word {a b : Nat} (ha : a < 4294967296) (hb : b < 4294967296) : a * b ≤ 18446744065119617025 :=
  Nat.le_trans (Nat.mul_le_mul (Nat.le_of_lt_succ ha) (Nat.le_of_lt_succ hb)) (by decide)

theorem nat_mul_spec {V : View} {s t : Sl} {a b : Nat} (hs : NatAt V s a) (ht : NatAt V t b) (ha : wn a ≤ 2 ^ 44) (hb : wn b ≤ 2 ^ 44) :
    CallV Try.prog n_nat_mul #[s.v, t.v] V fun v V' => ∃ r : Sl, v = r.v ∧ NatAt V' r (a * b) := by
  have hsl := hs.len
  have htl := ht.len
  have hs0 : s.len = 0 → a = 0 := fun h => wn_eq_zero.1 (by simp only [wn]; omega)
  have ht0 : t.len = 0 → b = 0 := fun h => wn_eq_zero.1 (by simp only [wn]; omega)
  simp only [wn] at ha hb
  have zero : a * b = 0 → ∀ V', ∃ r : Sl, (Sl.mk none 0 0).v = r.v ∧ NatAt V' r (a * b) := fun h V' => ⟨_, rfl, by rw [h]; exact NatAt.zero V'⟩
  refine nat_mul_vc s t V _ (fun _ _ _ => True)
    (fun _ x _ => ∃ i l, x = L_nat_mul_1.mk (i : Nat) (wv l) ∧ i ≤ s.len ∧ WB l ∧ l.length = s.len + t.len ∧ seg l 0 (i + t.len) = wval ((dig a).take i) * b)
    (fun _ x _ => (s.len - x.t27).toNat)
    (fun c x _ => ∃ i k cr l, c = C_nat_mul_2.mk (i : Nat) ((dig a).getD i 0 : Nat) (i : Nat) ∧ i < s.len ∧ x = L_nat_mul_2.mk (cr : Nat) (k : Nat) (wv l) ∧ WB l ∧ l.length = s.len + t.len ∧ k ≤ t.len ∧ cr < 4294967296 ∧
      seg l 0 (i + t.len) + cr * 4294967296 ^ (i + k) = wval ((dig a).take i) * b + (dig a).getD i 0 * wval ((dig b).take k) * 4294967296 ^ i)
    (fun _ x _ => (t.len - x.t34).toNat)
    ⟨⟨fun h => ⟨fun _ => zero (by have h : (s.len : Int) = 0 := (by simpa using h); rw [hs0 (by omega)]; simp) _, fun h => by cases h⟩,
      fun _ => ⟨fun h => zero (by have h : (t.len : Int) = 0 := (by simpa using h); rw [ht0 (by omega)]; simp) _, fun _ => trivial⟩⟩, ?_⟩
  rintro _ V1 hle1 _
  rw [i64w (n := (s.len : Int) + t.len) (by omega) (by omega)]
  have hn : Int.toNat ((s.len : Int) + t.len) = s.len + t.len := by omega
  rw [hn]
  refine ⟨⟨by omega, by omega, by omega, by omega⟩, ⟨0, List.replicate (s.len + t.len) 0, ?_, by omega, WB.zeros _, by simp, ?_⟩, ?_⟩
  · rw [wv_zeros]; rfl
  · rw [seg_rep]; simp [wval]
  rintro _ V2 hle2 ⟨i, l, rfl, hi, hwb, hl, hval⟩
  refine ⟨fun hp => ?_, fun hp b1 V4 hle4 hb1 => ?_⟩
  · simp only [decide_eq_true_eq] at hp
    refine ⟨⟨by show (0 : Int) ≤ (i : Nat); omega, hp, hs.isSome (by omega)⟩, _, (hs.le (View.le_trans hle1 hle2)).get (by show (0 : Int) ≤ (i : Nat); omega) hp, ⟨i, 0, 0, l, rfl, by omega, rfl, hwb, hl, by omega, by omega, by simp [hval, wval]⟩, ?_⟩
    rintro _ V3 hle3 ⟨i', k, cr, l', hc, hi', rfl, hwb', hl', hk, hcr, hval'⟩
    obtain rfl : i = i' := by simp only [C_nat_mul_2.mk.injEq] at hc; omega
    have hbd := (WB_dig a).getD i
    simp only [Int.toNat_natCast]
    refine ⟨fun hq => ?_, fun hq => ?_⟩
    · simp only [decide_eq_true_eq] at hq
      have hbk := (WB_dig b).getD k
      have hwl := hwb'.getD (i + k)
      have hm := mul_word hbd hbk
      have hik : i + k < l'.length := by omega
      rw [i64w (n := (i : Int) + k) (by omega) (by omega), i64w (n := (k : Int) + 1) (by omega) (by omega)]
      have e1 : Int.toNat ((i : Int) + k) = i + k := by omega
      rw [e1]
      refine ⟨⟨by omega, hq, ht.isSome (by omega)⟩, _, (ht.le (View.le_trans hle1 (View.le_trans hle2 hle3))).get (by show (0 : Int) ≤ (k : Nat); omega) hq, ⟨by omega, by omega⟩, ((l'.getD (i + k) 0 : Nat) : Int), ?_, ⟨by omega, by omega⟩, ?_, ?_⟩
      · rw [show 0 + (i + k) * 1 = i + k by omega]; exact wv_get hik
      · rw [wv_length]; omega
      simp only [Int.toNat_natCast]
      rw [u64w (n := (((dig a).getD i 0 : Nat) : Int)) (by omega) (by omega), u64w (n := (((dig b).getD k 0 : Nat) : Int)) (by omega) (by omega), u64w (n := ((l'.getD (i + k) 0 : Nat) : Int)) (by omega) (by omega), ← Int.natCast_mul,
        u64w (n := (((dig a).getD i 0 * (dig b).getD k 0 : Nat) : Int)) (by omega) (by omega), u64w (n := (((dig a).getD i 0 * (dig b).getD k 0 : Nat) : Int) + ((l'.getD (i + k) 0 : Nat) : Int)) (by omega) (by omega), u64w (by omega) (by omega)]
      have e2 : (2 : Int) ^ (min (Int.toNat 32) (IntKind.u64.bits)) = 4294967296 := by decide
      rw [e2, Int.fdiv_eq_ediv_of_nonneg _ (by omega), u32m, show 0 + (i + k) * 1 = i + k by omega]
      generalize hm' : (dig a).getD i 0 * (dig b).getD k 0 = m at *
      generalize hd : cr + m + l'.getD (i + k) 0 = z
      have e3 : (cr : Int) + ((m : Int) + ((l'.getD (i + k) 0 : Nat) : Int)) = (z : Nat) := by omega
      rw [e3]
      have e4 : ((z : Nat) : Int) % 4294967296 = ((z % 4294967296 : Nat) : Int) := by omega
      have e5 : ((z : Nat) : Int) / 4294967296 = ((z / 4294967296 : Nat) : Int) := by omega
      rw [e4, e5, wv_set]
      refine ⟨⟨i, k + 1, z / 4294967296, l'.set (i + k) (z % 4294967296), rfl, by omega, by simp, hwb'.set (by omega), by simpa using hl', by omega, by omega, ?_⟩, by show ((t.len : Int) - ((k : Int) + 1)).toNat < ((t.len : Int) - k).toNat; omega⟩
      have h1 := seg_set (l := l') (p := i + k) (d := z % 4294967296) (j := 0) (k := i + t.len) (by omega) (by omega) hik
      rw [Nat.sub_zero] at h1
      rw [wval_take_succ, ← Nat.add_assoc, Nat.pow_succ]
      have h2 : z % 4294967296 + z / 4294967296 * 4294967296 = z := by omega
      have h3 := congrArg (· * 4294967296 ^ (i + k)) h2
      rw [← hd] at h3
      simp only [Nat.add_mul] at h3
      have h4 : (dig a).getD i 0 * ((dig b).getD k 0 * 4294967296 ^ k) * 4294967296 ^ i = m * 4294967296 ^ (i + k) := by rw [← hm', Nat.pow_add]; grind
      rw [← hd] at h1
      rw [Nat.mul_add, Nat.add_mul, h4, ← hd]
      have h5 : ∀ q, q * (4294967296 ^ (i + k) * 4294967296) = q * 4294967296 * 4294967296 ^ (i + k) := by intro q; grind
      rw [h5]
      omega
    · simp only [decide_eq_false_iff_not] at hq
      have hkt : k = t.len := by omega
      subst hkt
      rw [i64w (n := (i : Int) + t.len) (by omega) (by omega), i64w (n := (i : Int) + 1) (by omega) (by omega)]
      have e1 : Int.toNat ((i : Int) + t.len) = i + t.len := by omega
      rw [e1, show 0 + (i + t.len) * 1 = i + t.len by omega, u32w (by omega) (by omega), wv_set, wv_length]
      refine ⟨⟨by omega, by omega⟩, by omega, ⟨i + 1, l'.set (i + t.len) cr, by simp, by omega, hwb'.set hcr, by simpa using hl', ?_⟩, by show ((s.len : Int) - ((i : Int) + 1)).toNat < ((s.len : Int) - i).toNat; omega⟩
      rw [show i + 1 + t.len = i + t.len + 1 by omega, seg_set_last (by omega) (by omega), hval', wval_take_succ, wval_take_all (l := dig b) (by omega), wval_dig]
      grind
  · simp only [decide_eq_false_iff_not] at hp
    have hi' : i = s.len := by omega
    subst hi'
    rw [seg_all (by omega), wval_take_all (l := dig a) (by omega), wval_dig] at hval
    have hw : Words V4 (Sl.mk (some (Addr.mk b1 0 none)) (s.len + t.len) (s.len + t.len)) l := Words.of_block hb1 (by omega) (Nat.le_refl _) hwb
    refine (num_trim_spec hw (by omega)).mono fun v V6 _ ⟨r, hv, hr⟩ => ⟨r, hv, r, rfl, ?_⟩
    rw [hval] at hr; exact hr

end Go.Proofs.Ytnbjnokgmeamdaa
