/- What the functions of natural numbers come to: Div32, short, Len32, LeadingZeros32. -/
import Derived.Test.YtnbjnokgmeamdaaCNat2
import Derived.Test.YtnbjnokgmeamdaaFNat2
namespace Go.Proofs.Ytnbjnokgmeamdaa
open Go Go.Vc Go.Proofs

theorem bits_Div32_spec {V : View} {x y d : Nat} (hx : x < d) (hy : y < 4294967296) (hd : d < 4294967296) :
    CallV Try.prog n_bits_Div32 #[.int .u32 (x : Int), .int .u32 (y : Int), .int .u32 (d : Int)] V fun v V' =>
      v = .tuple #[.int .u32 (((x * 4294967296 + y) / d : Nat) : Int), .int .u32 (((x * 4294967296 + y) % d : Nat) : Int)] := by
  refine bits_Div32_vc _ _ _ V _ ⟨fun h => ⟨fun h2 => ?_, fun _ => ?_⟩, fun h => ?_⟩
  · have : (d : Int) ≤ x := by simpa using h2
    omega
  · have e : (2 : Int) ^ (min (Int.toNat 32) (IntKind.u64.bits)) = 4294967296 := by decide
    rw [u64w (n := (d : Int)) (by omega) (by omega), u64w (n := (x : Int)) (by omega) (by omega), u64w (n := (y : Int)) (by omega) (by omega), e, u64w (n := (x : Int) * 4294967296) (by omega) (by omega),
      show (x : Int) * 4294967296 = ((x * 4294967296 : Nat) : Int) by omega, or64 hy (by omega), u64w (n := ((x * 4294967296 + y : Nat) : Int)) (by omega) (by omega), ← Int.ofNat_tdiv, ← Int.ofNat_tmod]
    have h1 : (x * 4294967296 + y) / d < 4294967296 := by
      rw [Nat.div_lt_iff_lt_mul (by omega)]
      have := Nat.mul_le_mul_right 4294967296 (Nat.succ_le_of_lt hx)
      rw [Nat.succ_mul] at this
      omega
    have h2 : (x * 4294967296 + y) % d < d := Nat.mod_lt _ (by omega)
    generalize (x * 4294967296 + y) / d = q at *
    generalize (x * 4294967296 + y) % d = m at *
    rw [u64w (n := (q : Int)) (by omega) (by omega), u32w (n := (q : Int)) (by omega) (by omega), u32w (n := (m : Int)) (by omega) (by omega)]
    exact ⟨by omega, by omega, rfl⟩
  · have : (d : Int) = 0 := by simpa using h
    omega

theorem nat_short_spec {V : View} {s : Sl} {a d : Nat} (hs : NatAt V s a) (ha : wn a ≤ 2 ^ 45) (hd0 : 0 < d) (hd : d < 4294967296) :
    CallV Try.prog n_nat_short #[s.v, .int .u32 (d : Int)] V fun v V' => ∃ r : Sl, v = .tuple #[r.v, .int .u32 ((a % d : Nat) : Int)] ∧ NatAt V' r (a / d) := by
  have hsl := hs.len
  simp only [wn] at ha
  refine nat_short_vc s d V _
    (fun _ x _ => ∃ (j k rest : Nat) (l : List Nat), x = L_nat_short_0.mk (rest : Nat) ((j : Int) - 1) (wv l) ∧ j + k = s.len ∧ WB l ∧ l.length = s.len ∧ rest < d ∧ seg (dig a) j k = seg l j k * d + rest)
    (fun _ x _ => (x.t8 + 1).toNat) ⟨⟨by omega, by omega, by omega, by omega⟩, ⟨s.len, 0, 0, List.replicate s.len 0, ?_, by omega, WB.zeros _, by simp, hd0, by simp [seg_zero]⟩, ?_⟩
  · rw [i64w (by omega) (by omega), Int.toNat_natCast, wv_zeros]; rfl
  rintro _ V1 hle ⟨j, k, rest, l, rfl, hjk, hwb, hl, hr, hval⟩
  refine ⟨fun hp => ?_, fun hp b1 V3 hle3 hb1 => ?_⟩
  · simp only [ge_iff_le, decide_eq_true_eq] at hp
    obtain ⟨i, rfl⟩ : ∃ i, j = i + 1 := ⟨j - 1, by omega⟩
    simp only [show (((i + 1 : Nat) : Int) - 1) = (i : Nat) by omega, Int.toNat_natCast]
    have hw := (WB_dig a).getD i
    refine ⟨⟨by omega, by omega, hs.isSome (by omega)⟩, _, (hs.le hle).get (i := (i : Nat)) (by omega) (by omega), ?_⟩
    simp only [Int.toNat_natCast]
    refine (bits_Div32_spec hr hw hd).mono fun v V2 hle2 hv => ⟨_, _, hv, ⟨by omega, by omega⟩, by rw [wv_length]; omega, ?_⟩
    rw [i64w (by omega) (by omega), show 0 + i * 1 = i by omega, wv_set]
    have h1 : (rest * 4294967296 + (dig a).getD i 0) / d < 4294967296 := by
      rw [Nat.div_lt_iff_lt_mul (by omega)]
      have := Nat.mul_le_mul_right 4294967296 (Nat.succ_le_of_lt hr)
      rw [Nat.succ_mul] at this
      omega
    refine ⟨⟨i, k + 1, _, _, rfl, by omega, hwb.set h1, by simpa using hl, Nat.mod_lt _ hd0, ?_⟩, by show ((i : Int) - 1 + 1).toNat < ((i : Int) + 1).toNat; omega⟩
    rw [Nat.add_comm k 1, seg_split, seg_split _ i 1 k, hval, seg_set_out (j := i + 1) (by omega), seg_succ, seg_succ, seg_zero, seg_zero, Nat.add_zero, getD_set, if_pos ⟨rfl, by omega⟩]
    have := Nat.div_add_mod (rest * 4294967296 + (dig a).getD i 0) d
    generalize (rest * 4294967296 + (dig a).getD i 0) / d = q at *
    generalize (rest * 4294967296 + (dig a).getD i 0) % d = m at *
    simp only [Nat.pow_zero, Nat.mul_one, Nat.pow_one, Nat.zero_add, Nat.mul_add, Nat.add_mul]
    have e2 : 4294967296 * (seg l (i + 1) k * d) = 4294967296 * seg l (i + 1) k * d := by rw [Nat.mul_assoc]
    have e3 : q * d = d * q := Nat.mul_comm _ _
    omega
  · simp only [ge_iff_le, decide_eq_false_iff_not] at hp
    have hj : j = 0 := by omega
    subst hj
    have hk : k = s.len := by omega
    subst hk
    have hw : Words V3 (Sl.mk (some (Addr.mk b1 0 none)) (Int.toNat (s.len : Int)) (Int.toNat (s.len : Int))) l := Words.of_block hb1 (by omega) (Nat.le_refl _) hwb
    rw [seg_all (by omega), seg_all (by omega), wval_dig] at hval
    have e1 : a / d = wval l := by rw [hval, Nat.mul_comm, Nat.mul_add_div hd0, Nat.div_eq_of_lt hr]; omega
    have e2 : a % d = rest := by rw [hval, Nat.mul_comm, Nat.mul_add_mod, Nat.mod_eq_of_lt hr]
    refine (num_trim_spec hw (by omega)).mono fun v V6 _ ⟨r, hv, hr⟩ => ⟨r, hv, r, ?_, ?_⟩
    · rw [e2]
    · rw [e1]; exact hr

theorem len8 : ∀ n, n < 256 → strAt (ByteArray.mk #[0, 1, 2, 2, 3, 3, 3, 3, 4, 4, 4, 4, 4, 4, 4, 4, 5, 5, 5, 5, 5, 5, 5, 5, 5, 5, 5, 5, 5, 5, 5, 5, 6, 6, 6, 6, 6, 6, 6, 6, 6, 6, 6, 6, 6, 6, 6, 6, 6, 6, 6, 6, 6, 6, 6, 6, 6, 6, 6, 6, 6, 6, 6, 6, 7, 7, 7, 7, 7, 7, 7, 7, 7, 7, 7, 7, 7, 7, 7, 7, 7, 7, 7, 7, 7, 7, 7, 7, 7, 7, 7, 7, 7, 7, 7, 7, 7, 7, 7, 7, 7, 7, 7, 7, 7, 7, 7, 7, 7, 7, 7, 7, 7, 7, 7, 7, 7, 7, 7, 7, 7, 7, 7, 7, 7, 7, 7, 7, 8, 8, 8, 8, 8, 8, 8, 8, 8, 8, 8, 8, 8, 8, 8, 8, 8, 8, 8, 8, 8, 8, 8, 8, 8, 8, 8, 8, 8, 8, 8, 8, 8, 8, 8, 8, 8, 8, 8, 8, 8, 8, 8, 8, 8, 8, 8, 8, 8, 8, 8, 8, 8, 8, 8, 8, 8, 8, 8, 8, 8, 8, 8, 8, 8, 8, 8, 8, 8, 8, 8, 8, 8, 8, 8, 8, 8, 8, 8, 8, 8, 8, 8, 8, 8, 8, 8, 8, 8, 8, 8, 8, 8, 8, 8, 8, 8, 8, 8, 8, 8, 8, 8, 8, 8, 8, 8, 8, 8, 8, 8, 8, 8, 8, 8, 8, 8, 8, 8, 8, 8, 8, 8, 8, 8, 8, 8, 8]) n = (bl n : Int) := by decide +kernel
theorem len8size : ByteArray.size (ByteArray.mk #[0, 1, 2, 2, 3, 3, 3, 3, 4, 4, 4, 4, 4, 4, 4, 4, 5, 5, 5, 5, 5, 5, 5, 5, 5, 5, 5, 5, 5, 5, 5, 5, 6, 6, 6, 6, 6, 6, 6, 6, 6, 6, 6, 6, 6, 6, 6, 6, 6, 6, 6, 6, 6, 6, 6, 6, 6, 6, 6, 6, 6, 6, 6, 6, 7, 7, 7, 7, 7, 7, 7, 7, 7, 7, 7, 7, 7, 7, 7, 7, 7, 7, 7, 7, 7, 7, 7, 7, 7, 7, 7, 7, 7, 7, 7, 7, 7, 7, 7, 7, 7, 7, 7, 7, 7, 7, 7, 7, 7, 7, 7, 7, 7, 7, 7, 7, 7, 7, 7, 7, 7, 7, 7, 7, 7, 7, 7, 7, 8, 8, 8, 8, 8, 8, 8, 8, 8, 8, 8, 8, 8, 8, 8, 8, 8, 8, 8, 8, 8, 8, 8, 8, 8, 8, 8, 8, 8, 8, 8, 8, 8, 8, 8, 8, 8, 8, 8, 8, 8, 8, 8, 8, 8, 8, 8, 8, 8, 8, 8, 8, 8, 8, 8, 8, 8, 8, 8, 8, 8, 8, 8, 8, 8, 8, 8, 8, 8, 8, 8, 8, 8, 8, 8, 8, 8, 8, 8, 8, 8, 8, 8, 8, 8, 8, 8, 8, 8, 8, 8, 8, 8, 8, 8, 8, 8, 8, 8, 8, 8, 8, 8, 8, 8, 8, 8, 8, 8, 8, 8, 8, 8, 8, 8, 8, 8, 8, 8, 8, 8, 8, 8, 8, 8, 8, 8, 8]) = 256 := by decide +kernel

theorem bits_Len32_spec {V : View} {x : Nat} (hx : x < 4294967296) :
    CallV Try.prog n_bits_Len32 #[.int .u32 (x : Int)] V fun v V' => v = .int .i64 (bl x : Nat) := by
  have e16 : (2 : Int) ^ (min (Int.toNat 16) (IntKind.u32.bits)) = 65536 := by decide
  have e8 : (2 : Int) ^ (min (Int.toNat 8) (IntKind.u32.bits)) = 256 := by decide
  have fin : ∀ (n k m : Nat), n < 256 → k ≤ 24 → bl x = bl n + k → (m : Int) = k → Value.int .i64 (IntKind.i64.wrap ((m : Int) + IntKind.i64.wrap (strAt (ByteArray.mk #[0, 1, 2, 2, 3, 3, 3, 3, 4, 4, 4, 4, 4, 4, 4, 4, 5, 5, 5, 5, 5, 5, 5, 5, 5, 5, 5, 5, 5, 5, 5, 5, 6, 6, 6, 6, 6, 6, 6, 6, 6, 6, 6, 6, 6, 6, 6, 6, 6, 6, 6, 6, 6, 6, 6, 6, 6, 6, 6, 6, 6, 6, 6, 6, 7, 7, 7, 7, 7, 7, 7, 7, 7, 7, 7, 7, 7, 7, 7, 7, 7, 7, 7, 7, 7, 7, 7, 7, 7, 7, 7, 7, 7, 7, 7, 7, 7, 7, 7, 7, 7, 7, 7, 7, 7, 7, 7, 7, 7, 7, 7, 7, 7, 7, 7, 7, 7, 7, 7, 7, 7, 7, 7, 7, 7, 7, 7, 7, 8, 8, 8, 8, 8, 8, 8, 8, 8, 8, 8, 8, 8, 8, 8, 8, 8, 8, 8, 8, 8, 8, 8, 8, 8, 8, 8, 8, 8, 8, 8, 8, 8, 8, 8, 8, 8, 8, 8, 8, 8, 8, 8, 8, 8, 8, 8, 8, 8, 8, 8, 8, 8, 8, 8, 8, 8, 8, 8, 8, 8, 8, 8, 8, 8, 8, 8, 8, 8, 8, 8, 8, 8, 8, 8, 8, 8, 8, 8, 8, 8, 8, 8, 8, 8, 8, 8, 8, 8, 8, 8, 8, 8, 8, 8, 8, 8, 8, 8, 8, 8, 8, 8, 8, 8, 8, 8, 8, 8, 8, 8, 8, 8, 8, 8, 8, 8, 8, 8, 8, 8, 8, 8, 8, 8, 8, 8, 8]) n))) = .int .i64 (bl x : Nat) := by
    intro n k m hn hk hb hm
    have h1 := lt_bl n
    have h2 : bl n ≤ 8 := by
      rcases Nat.eq_zero_or_pos n with h | h
      · subst h; simp [bl_zero]
      · have := bl_le (by omega : n ≠ 0)
        have := (Nat.pow_lt_pow_iff_right (a := 2) (n := bl n - 1) (m := 8) (by omega)).1 (by omega)
        omega
    rw [len8 n hn, i64w (n := (bl n : Int)) (by omega) (by omega), i64w (by omega) (by omega), hm, hb]
    congr 1; omega
  have w8 : ∀ n : Nat, n < 256 → IntKind.u8.wrap (n : Int) = n := by
    intro n hn
    rw [show IntKind.u8.wrap (n : Int) = (n : Int) % 256 from by simp [IntKind.wrap, IntKind.signed, IntKind.bits]]
    omega
  refine bits_Len32_vc _ V _ ?_
  rw [e16, e8, Int.fdiv_eq_ediv_of_nonneg _ (by omega), Int.fdiv_eq_ediv_of_nonneg _ (by omega), Int.fdiv_eq_ediv_of_nonneg _ (by omega), len8size]
  rw [show (x : Int) / 65536 / 256 = ((x / 16777216 : Nat) : Int) by omega, show (x : Int) / 65536 = ((x / 65536 : Nat) : Int) by omega, show (x : Int) / 256 = ((x / 256 : Nat) : Int) by omega]
  refine ⟨fun h1 => ⟨fun h2 => ?_, fun h2 => ?_⟩, fun h1 => ⟨fun h2 => ?_, fun h2 => ?_⟩⟩ <;> simp only [ge_iff_le, decide_eq_true_eq, decide_eq_false_iff_not] at h1 h2
  · rw [w8 _ (by omega), Int.toNat_natCast]
    refine ⟨⟨by omega, by omega⟩, fin _ 24 24 (by omega) (by omega) (bl_div 24 (by omega)) rfl⟩
  · rw [w8 _ (by omega), Int.toNat_natCast]
    refine ⟨⟨by omega, by omega⟩, fin _ 16 16 (by omega) (by omega) (bl_div 16 (by omega)) rfl⟩
  · rw [w8 _ (by omega), Int.toNat_natCast]
    refine ⟨⟨by omega, by omega⟩, fin _ 8 8 (by omega) (by omega) (bl_div 8 (by omega)) rfl⟩
  · rw [w8 _ (by omega), Int.toNat_natCast]
    refine ⟨⟨by omega, by omega⟩, fin _ 0 0 (by omega) (by omega) rfl rfl⟩

theorem bits_LeadingZeros32_spec {V : View} {x : Nat} (hx : x < 4294967296) :
    CallV Try.prog n_bits_LeadingZeros32 #[.int .u32 (x : Int)] V fun v V' => v = .int .i64 ((32 - bl x : Nat) : Int) := by
  refine bits_LeadingZeros32_vc _ V _ ((bits_Len32_spec hx).mono fun v V' _ hv => ⟨_, hv, ?_⟩)
  have h2 : bl x ≤ 32 := by
    rcases Nat.eq_zero_or_pos x with h | h
    · subst h; simp [bl_zero]
    · have := bl_le (by omega : x ≠ 0)
      have := (Nat.pow_lt_pow_iff_right (a := 2) (n := bl x - 1) (m := 32) (by omega)).1 (by omega)
      omega
  rw [i64w (by omega) (by omega)]
  congr 1; omega

theorem top_bounds {a : Nat} (h : a ≠ 0) : (dig a).getD (wn a - 1) 0 * 4294967296 ^ (wn a - 1) ≤ a ∧ a < ((dig a).getD (wn a - 1) 0 + 1) * 4294967296 ^ (wn a - 1) ∧ (dig a).getD (wn a - 1) 0 ≠ 0 := by
  have h0 : wn a ≠ 0 := fun e => h (wn_eq_zero.1 e)
  have h1 := wval_take_succ (dig a) (wn a - 1)
  rw [wval_take_all (by simp only [wn] at h0 ⊢; omega), wval_dig] at h1
  have h2 := wval_lt ((WB_dig a).take (wn a - 1))
  have h3 : ((dig a).take (wn a - 1)).length = wn a - 1 := by simp [wn]
  rw [h3] at h2
  refine ⟨by omega, by rw [Nat.succ_mul]; omega, ?_⟩
  have h4 : (dig a).getLast? = some ((dig a).getD (wn a - 1) 0) := by
    rw [List.getLast?_eq_getElem?]
    simp only [wn] at h0 ⊢
    simp only [List.getD]
    rw [List.getElem?_eq_getElem (by omega)]; rfl
  exact dig_last h4

theorem bl_wn {a : Nat} (h : a ≠ 0) : bl a = bl ((dig a).getD (wn a - 1) 0) + 32 * (wn a - 1) := by
  obtain ⟨h1, h2, h3⟩ := top_bounds h
  have e : (4294967296 : Nat) ^ (wn a - 1) = 2 ^ (32 * (wn a - 1)) := by rw [Nat.pow_mul]
  rw [e] at h1 h2
  exact bl_shift _ h3 h1 h2

end Go.Proofs.Ytnbjnokgmeamdaa
