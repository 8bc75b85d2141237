/- What the functions of natural numbers come to: take. -/
import Derived.Test.YtnbjnokgmeamdaaCNat4
namespace Go.Proofs.Ytnbjnokgmeamdaa
open Go Go.Vc Go.Proofs

theorem sh32_64 : (2 : Int) ^ (min (Int.toNat 32) (IntKind.u64.bits)) = 4294967296 := by decide
theorem sh63_64 : (2 : Int) ^ (min (Int.toNat 63) (IntKind.u64.bits)) = 9223372036854775808 := by decide

/-- One word less another one and a borrow. -/
theorem borrow_word {u p b : Nat} (hu : u < 4294967296) (hp : p < 4294967296) (hb : b ≤ 1) : ∃ low br : Nat, low < 4294967296 ∧ br ≤ 1 ∧ low + p + b = u + br * 4294967296 ∧
    IntKind.u32.wrap (IntKind.u64.wrap (IntKind.u64.wrap ((u : Int) - p) - b)) = (low : Nat) ∧ Int.fdiv (IntKind.u64.wrap (IntKind.u64.wrap ((u : Int) - p) - b)) 9223372036854775808 = (br : Nat) := by
  refine ⟨(u + 8589934592 - p - b) % 4294967296, if u < p + b then 1 else 0, by omega, by split <;> omega, by split <;> omega, ?_, ?_⟩
  · rw [u32m, u64m, u64m]; omega
  · rw [u64m, u64m, Int.fdiv_eq_ediv_of_nonneg _ (by omega)]; split <;> omega

theorem num_take_spec {V : View} {sv : Sl} {vN q j m : Nat} {l : List Nat} (hv : NatAt V sv vN) (hq : q < 4294967296) (hl : l.length = m) (hwb : WB l) (hj : j + sv.len < m) (hm : m ≤ 2 ^ 46) :
    CallD Try.prog n_num_take (fun b => (Value.slice (some ⟨b, 0, none⟩) m m :: [sv.v, Value.int .u64 (q : Nat), Value.int .i64 (j : Nat)] : List Value)) T_u32 (wv l) V fun v l2 V' =>
      ∃ neg l', v = .bool neg ∧ l2 = wv l' ∧ WB l' ∧ l'.length = m ∧ (∀ i, i < j ∨ j + sv.len < i → l'.getD i 0 = l.getD i 0) ∧
        seg l' j (sv.len + 1) + q * vN = seg l j (sv.len + 1) + (if neg then 4294967296 ^ (sv.len + 1) else 0) := by
  have hvl := hv.len
  refine num_take_vc 0 m m (wv l) sv q j V _
    (fun _ x _ => ∃ (i c b : Nat) (l' : List Nat), x = L_num_take_0.mk (c : Nat) (b : Nat) (i : Nat) (wv l') ∧ i ≤ sv.len ∧ WB l' ∧ l'.length = m ∧ c < 4294967296 ∧ b ≤ 1 ∧
      (∀ p, p < j ∨ j + i ≤ p → l'.getD p 0 = l.getD p 0) ∧ seg l' j i + q * wval ((dig vN).take i) = seg l j i + (c + b) * 4294967296 ^ i)
    (fun _ x _ => (sv.len - x.t18).toNat) ⟨⟨0, 0, 0, l, rfl, by omega, hwb, hl, by omega, by omega, fun _ _ => rfl, by simp [seg_zero, wval]⟩, ?_⟩
  rintro _ V1 hle ⟨i, c, b, l', rfl, hi, hwb', hl', hc, hb, hout, hval⟩
  simp only [sh32_64, sh63_64]
  refine ⟨fun hp => ?_, fun hp => ?_⟩
  · simp only [decide_eq_true_eq] at hp
    rw [i64w (n := (i : Int) + j) (by omega) (by omega), i64w (n := (i : Int) + 1) (by omega) (by omega), show 0 + Int.toNat ((i : Int) + j) * 1 = j + i by omega]
    have hvi := (WB_dig vN).getD i
    have hui := hwb'.getD (j + i)
    refine ⟨⟨by omega, hp, hv.isSome (by omega)⟩, _, (hv.le hle).get (i := (i : Nat)) (by omega) hp, ⟨by omega, by omega⟩, _, wv_get (by omega), ⟨by omega, by omega⟩, by rw [wv_length]; omega, ?_⟩
    simp only [Int.toNat_natCast]
    generalize hA : (dig vN).getD i 0 = A at *
    generalize hU : l'.getD (j + i) 0 = U at *
    have hm' := mul_word hq hvi
    rw [u64w (n := (A : Int)) (by omega) (by omega), ← Int.natCast_mul, u64w (n := ((q * A : Nat) : Int)) (by omega) (by omega), u64w (n := ((q * A : Nat) : Int) + c) (by omega) (by omega)]
    obtain ⟨P, hP⟩ : ∃ P, P = q * A + c := ⟨_, rfl⟩
    rw [show ((q * A : Nat) : Int) + c = (P : Nat) by omega, show IntKind.u32.wrap (P : Int) = ((P % 4294967296 : Nat) : Int) by rw [u32m]; omega,
      u64w (n := ((P % 4294967296 : Nat) : Int)) (by omega) (by omega), u64w (n := (U : Int)) (by omega) (by omega), Int.fdiv_eq_ediv_of_nonneg (P : Int) (by omega),
      show (P : Int) / 4294967296 = ((P / 4294967296 : Nat) : Int) by omega]
    obtain ⟨low, br, h1, h2, h3, h4, h5⟩ := borrow_word hui (Nat.mod_lt P (by omega : 0 < 4294967296)) hb
    rw [h4, h5, wv_set]
    refine ⟨⟨i + 1, P / 4294967296, br, l'.set (j + i) low, rfl, by omega, hwb'.set h1, by simpa using hl', by omega, h2, ?_, ?_⟩, by show ((sv.len : Int) - ((i : Int) + 1)).toNat < ((sv.len : Int) - i).toNat; omega⟩
    · intro p hp
      rw [getD_set, if_neg (by omega)]; exact hout p (by omega)
    · have hu0 : l.getD (j + i) 0 = U := by rw [← hU]; exact (hout (j + i) (by omega)).symm
      rw [seg_set_last rfl (by omega), seg_succ, wval_take_succ, hA, hu0, Nat.pow_succ]
      have h6 : low + q * A + c + b = U + (P / 4294967296 + br) * 4294967296 := by
        have := Nat.div_add_mod P 4294967296
        omega
      have h7 := congrArg (· * 4294967296 ^ i) h6
      simp only [Nat.add_mul] at h7 hval ⊢
      have h8 : q * (wval (List.take i (dig vN)) + A * 4294967296 ^ i) = q * wval (List.take i (dig vN)) + q * A * 4294967296 ^ i := by rw [Nat.mul_add, Nat.mul_assoc]
      have h9 : ∀ z, z * (4294967296 ^ i * 4294967296) = z * 4294967296 * 4294967296 ^ i := by intro z; grind
      rw [h8, h9, h9]
      omega
  · simp only [decide_eq_false_iff_not] at hp
    have hi' : i = sv.len := by omega
    subst hi'
    rw [i64w (n := (j : Int) + sv.len) (by omega) (by omega), show 0 + Int.toNat ((j : Int) + sv.len) * 1 = j + sv.len by omega]
    have hui := hwb'.getD (j + sv.len)
    refine ⟨⟨by omega, by omega⟩, _, wv_get (by omega), ⟨by omega, by omega⟩, by rw [wv_length]; omega, ?_⟩
    generalize hU : l'.getD (j + sv.len) 0 = U at *
    rw [u64w (n := (U : Int)) (by omega) (by omega)]
    obtain ⟨low, br, h1, h2, h3, h4, h5⟩ := borrow_word hui hc hb
    rw [h4, h5, wv_set]
    refine ⟨_, _, rfl, rfl, hwb'.set h1, by simpa using hl', ?_, ?_⟩
    · intro p hp
      rw [getD_set, if_neg (by omega)]; exact hout p (by omega)
    · have hu0 : l.getD (j + sv.len) 0 = U := by rw [← hU]; exact (hout (j + sv.len) (by omega)).symm
      rw [wval_take_all (l := dig vN) (by omega), wval_dig] at hval
      rw [seg_set_last rfl (by omega), seg_succ, hu0, Nat.pow_succ]
      have h7 := congrArg (· * 4294967296 ^ sv.len) h3
      simp only [Nat.add_mul] at h7 hval
      have hif : (if ((br : Nat) : Int) != 0 then 4294967296 ^ sv.len * 4294967296 else 0) = br * 4294967296 * 4294967296 ^ sv.len := by
        rcases Nat.eq_zero_or_pos br with h | h
        · subst h; simp
        · have : br = 1 := by omega
          subst this; simp [Nat.mul_comm]
      rw [hif]
      omega

end Go.Proofs.Ytnbjnokgmeamdaa
