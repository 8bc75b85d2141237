/- Words and their bits. No program in sight. -/
import Derived.Test.YtnbjnokgmeamdaaVDiv
namespace Go.Vc
open Go
theorem wrap32_toNat (X : BitVec IntKind.u32.bits) : IntKind.u32.wrap (X.toNat : Int) = X.toNat := by
  have h : X.toNat < 4294967296 := X.isLt
  exact u32w (by omega) (by omega)
theorem wrap64_toNat (X : BitVec IntKind.u64.bits) : IntKind.u64.wrap (X.toNat : Int) = X.toNat := by
  have h : X.toNat < 18446744073709551616 := X.isLt
  exact u64w (by omega) (by omega)
theorem ofInt_toNat' {w : Nat} (X : BitVec w) : BitVec.ofInt w (X.toNat : Int) = X := by
  rw [BitVec.ofInt_natCast, BitVec.ofNat_toNat, BitVec.setWidth_eq]
theorem of32 {n : Nat} (h : n < 4294967296) : (BitVec.ofInt 32 (n : Int)).toNat = n := by
  rw [BitVec.ofInt_natCast, BitVec.toNat_ofNat]; exact Nat.mod_eq_of_lt h
theorem of64 {n : Nat} (h : n < 18446744073709551616) : (BitVec.ofInt 64 (n : Int)).toNat = n := by
  rw [BitVec.ofInt_natCast, BitVec.toNat_ofNat]; exact Nat.mod_eq_of_lt h
theorem or64 {a b : Nat} (ha : a < 4294967296) (hb : b < 4294967296) :
    BitVec.toNat ((BitVec.ofInt IntKind.u64.bits (((b * 4294967296 : Nat)) : Int)) ||| (BitVec.ofInt IntKind.u64.bits ((a : Nat) : Int))) = b * 4294967296 + a := by
  have e : IntKind.u64.bits = 64 := rfl
  rw [e, BitVec.ofInt_natCast, BitVec.ofInt_natCast, BitVec.toNat_or, BitVec.toNat_ofNat, BitVec.toNat_ofNat, Nat.mod_eq_of_lt (by omega), Nat.mod_eq_of_lt (by omega)]
  have := Nat.two_pow_add_eq_or_of_lt (i := 32) (b := a) (by omega) b
  rw [show b * 4294967296 = 2 ^ 32 * b by omega, ← this]
theorem or64' {a b : Nat} (ha : a < 4294967296) (hb : b < 4294967296) :
    BitVec.toNat ((BitVec.ofInt IntKind.u64.bits ((a : Nat) : Int)) ||| (BitVec.ofInt IntKind.u64.bits (((b * 4294967296 : Nat)) : Int))) = b * 4294967296 + a := by
  rw [BitVec.or_comm]; exact or64 ha hb
theorem shr63 (X : BitVec IntKind.u32.bits) : Int.fdiv (X.toNat : Int) (2 ^ (min (Int.toNat 31) (IntKind.u32.bits))) = X.msb.toNat := by
  have e : (2 : Int) ^ (min (Int.toNat 31) (IntKind.u32.bits)) = 2147483648 := by decide
  have h : X.toNat < 4294967296 := X.isLt
  rw [e, Int.fdiv_eq_ediv_of_nonneg _ (by omega), BitVec.msb_eq_decide]
  have e2 : 2 ^ (IntKind.u32.bits - 1) = 2147483648 := by decide
  rw [e2]
  by_cases hx : 2147483648 ≤ X.toNat
  · simp [hx]; omega
  · simp [hx]; omega
theorem sub32_msb {x y b : Nat} (hx : x < 4294967296) (hy : y < 4294967296) (hb : b ≤ 1) (X Y D : BitVec 32) (hX : X.toNat = x) (hY : Y.toNat = y) (hD : D.toNat = (x + 8589934592 - y - b) % 4294967296) (M : BitVec 32) (hM : M = BitVec.allOnes 32) :
    (((M ^^^ X) &&& Y) ||| ((M ^^^ (X ^^^ Y)) &&& D)).msb.toNat = if x < y + b then 1 else 0 := by
  subst hM
  simp only [BitVec.msb_or, BitVec.msb_and, BitVec.msb_xor, BitVec.msb_allOnes (w := 32) (by omega)]
  simp only [BitVec.msb_eq_decide, hX, hY, hD]
  have e2 : 2 ^ (32 - 1) = 2147483648 := by decide
  rw [e2]
  by_cases h1 : 2147483648 ≤ x <;> by_cases h2 : 2147483648 ≤ y <;> by_cases h3 : 2147483648 ≤ (x + 8589934592 - y - b) % 4294967296 <;> simp [h1, h2, h3] <;> omega
theorem dig_getD (a i : Nat) : (dig a).getD i 0 = a / 4294967296 ^ i % 4294967296 := by
  induction i generalizing a with
  | zero =>
    by_cases h : a = 0
    · subst h; simp [dig_zero]
    · rw [dig_pos h]; simp
  | succ i ih =>
    by_cases h : a = 0
    · subst h; simp [dig_zero]
    · rw [dig_pos h, List.getD_cons_succ, ih, Nat.pow_succ, Nat.mul_comm, Nat.div_div_eq_div_mul]
/-- The number of bits. -/
def bl (n : Nat) : Nat := if n = 0 then 0 else Nat.log2 n + 1
theorem bl_zero : bl 0 = 0 := by simp [bl]
theorem lt_bl (n : Nat) : n < 2 ^ bl n := by
  unfold bl; split
  · omega
  · exact Nat.lt_log2_self
theorem bl_le {n : Nat} (h : n ≠ 0) : 2 ^ (bl n - 1) ≤ n := by
  simp only [bl, h, if_false, Nat.add_sub_cancel]; exact Nat.log2_self_le h
theorem bl_pos {n : Nat} (h : n ≠ 0) : 0 < bl n := by simp [bl, h]
theorem bl_eq {n k : Nat} (h1 : 2 ^ k ≤ n) (h2 : n < 2 ^ (k + 1)) : bl n = k + 1 := by
  have h0 : n ≠ 0 := by have := Nat.two_pow_pos k; omega
  have a1 := lt_bl n
  have a2 := bl_le h0
  have a3 := bl_pos h0
  have b1 : k < bl n := (Nat.pow_lt_pow_iff_right (a := 2) (by omega)).1 (Nat.lt_of_le_of_lt h1 a1)
  have b2 : bl n - 1 < k + 1 := (Nat.pow_lt_pow_iff_right (a := 2) (by omega)).1 (Nat.lt_of_le_of_lt a2 h2)
  omega
theorem bl_shift {n m : Nat} (k : Nat) (h0 : n ≠ 0) (h1 : n * 2 ^ k ≤ m) (h2 : m < (n + 1) * 2 ^ k) : bl m = bl n + k := by
  have a1 := lt_bl n
  have a2 := bl_le h0
  have a3 := bl_pos h0
  have e : bl n + k = (bl n - 1 + k) + 1 := by omega
  rw [e]
  refine bl_eq ?_ ?_
  · rw [Nat.pow_add]; exact Nat.le_trans (Nat.mul_le_mul_right _ a2) h1
  · rw [show bl n - 1 + k + 1 = bl n + k by omega, Nat.pow_add]; exact Nat.lt_of_lt_of_le h2 (Nat.mul_le_mul_right _ a1)
theorem bl_div {m : Nat} (k : Nat) (h : 2 ^ k ≤ m) : bl m = bl (m / 2 ^ k) + k := by
  have hp := Nat.two_pow_pos k
  have hd : 0 < m / 2 ^ k := Nat.div_pos h hp
  refine bl_shift k (by omega) (Nat.div_mul_le_self _ _) ?_
  have := Nat.lt_succ_iff.2 (Nat.le_refl (m / 2 ^ k))
  exact (Nat.div_lt_iff_lt_mul hp).1 this
theorem td32 (n : Nat) : Int.tdiv (n : Int) 32 = ((n / 32 : Nat) : Int) := (Int.ofNat_tdiv n 32).symm
theorem tm32 (n : Nat) : Int.tmod (n : Int) 32 = ((n % 32 : Nat) : Int) := (Int.ofNat_tmod n 32).symm
theorem orDisj {r h lo : Nat} (hh : h < 2 ^ r) : (h ||| lo * 2 ^ r) = h + lo * 2 ^ r := by
  have := Nat.two_pow_add_eq_or_of_lt hh lo
  rw [Nat.or_comm, show lo * 2 ^ r = 2 ^ r * lo by rw [Nat.mul_comm], ← this]; omega
theorem or32v {a b : Nat} (ha : a < 4294967296) (hb : b < 4294967296) :
    BitVec.toNat ((BitVec.ofInt IntKind.u32.bits ((a : Nat) : Int)) ||| (BitVec.ofInt IntKind.u32.bits ((b : Nat) : Int))) = a ||| b := by
  have e : IntKind.u32.bits = 32 := rfl
  rw [e, BitVec.ofInt_natCast, BitVec.ofInt_natCast, BitVec.toNat_or, BitVec.toNat_ofNat, BitVec.toNat_ofNat, Nat.mod_eq_of_lt (by omega), Nat.mod_eq_of_lt (by omega)]

end Go.Vc
