/- What the functions of natural numbers come to: div. -/
import Derived.Test.YtnbjnokgmeamdaaCNat5
import Derived.Test.YtnbjnokgmeamdaaVDiv2
import Derived.Test.YtnbjnokgmeamdaaFNat3
namespace Go.Proofs.Ytnbjnokgmeamdaa
open Go Go.Vc Go.Proofs

theorem div_norm {b sh : Nat} (hb : b ≠ 0) (hsh : sh = 32 - bl ((dig b).getD (wn b - 1) 0)) :
    sh ≤ 31 ∧ wn (b * 2 ^ sh) = wn b ∧ 2147483648 * 4294967296 ^ (wn b - 1) ≤ b * 2 ^ sh := by
  obtain ⟨h1, h2, h3⟩ := top_bounds hb
  have hlt := (WB_dig b).getD (wn b - 1)
  have hn : wn b ≠ 0 := fun e => hb (wn_eq_zero.1 e)
  obtain ⟨k, hk⟩ : ∃ k, wn b = k + 1 := ⟨wn b - 1, by omega⟩
  rw [hk, Nat.add_sub_cancel] at h1 h2 h3 hlt hsh
  rw [hk, Nat.add_sub_cancel]
  generalize (dig b).getD k 0 = t at *
  have a1 := lt_bl t
  have a2 := bl_le h3
  have a3 := bl_pos h3
  have a4 : bl t ≤ 32 := by
    have := (Nat.pow_lt_pow_iff_right (a := 2) (n := bl t - 1) (m := 32) (by omega)).1 (by omega)
    omega
  have e1 : 2 ^ (bl t - 1) * 2 ^ sh = 2147483648 := by rw [← Nat.pow_add, show bl t - 1 + sh = 31 by omega]
  have e2 : 2 ^ bl t * 2 ^ sh = 4294967296 := by rw [← Nat.pow_add, show bl t + sh = 32 by omega]
  have hP : 0 < 4294967296 ^ k := Nat.pow_pos (by omega)
  have lo : 2147483648 * 4294967296 ^ k ≤ b * 2 ^ sh := by
    rw [← e1]
    have h4 := Nat.mul_le_mul_right (4294967296 ^ k * 2 ^ sh) a2
    have h5 := Nat.mul_le_mul_right (2 ^ sh) h1
    have e3 : 2 ^ (bl t - 1) * 2 ^ sh * 4294967296 ^ k = 2 ^ (bl t - 1) * (4294967296 ^ k * 2 ^ sh) := by grind
    have e4 : t * 4294967296 ^ k * 2 ^ sh = t * (4294967296 ^ k * 2 ^ sh) := by grind
    omega
  have hi : b * 2 ^ sh < 4294967296 ^ (k + 1) := by
    have h4 := Nat.mul_le_mul_right (4294967296 ^ k * 2 ^ sh) (Nat.succ_le_of_lt a1)
    have h5 := Nat.mul_lt_mul_of_pos_right h2 (Nat.two_pow_pos sh)
    have e3 : 4294967296 ^ (k + 1) = 2 ^ bl t * (4294967296 ^ k * 2 ^ sh) := by rw [Nat.pow_succ, ← e2]; grind
    have e4 : (t + 1) * 4294967296 ^ k * 2 ^ sh = (t + 1) * (4294967296 ^ k * 2 ^ sh) := by grind
    simp only [Nat.succ_eq_add_one] at h4
    omega
  refine ⟨by omega, ?_, lo⟩
  have h6 := wn_le_of_lt hi
  rcases Nat.lt_or_ge (wn (b * 2 ^ sh)) (k + 1) with h7 | h7
  · exfalso
    have h8 := lt_wn (b * 2 ^ sh)
    have h9 : 4294967296 ^ wn (b * 2 ^ sh) ≤ 4294967296 ^ k := Nat.pow_le_pow_right (by omega) (by omega)
    omega
  · omega

theorem Words.pre {V : View} {s : Sl} {l : List Nat} (h : Words V s l) {k c : Nat} (hk : k ≤ l.length) (hc : k ≤ c) : Words V (Sl.mk s.a k c) (l.take k) := by
  refine ⟨fun i d hi => ?_, by simp; omega, hc, h.wb.take k⟩
  have hi' : i < k := by
    rcases Nat.lt_or_ge i k with h | h
    · exact h
    · rw [List.getElem?_eq_none (by simp; omega)] at hi; simp at hi
  rw [List.getElem?_take_of_lt hi'] at hi
  exact h.load i d hi
theorem wv_inj {a b : List Nat} (h : wv a = wv b) : a = b := by
  have := congrArg (List.map fun v => match v with | Value.int _ n => n.toNat | _ => 0) h
  simpa [wv, Function.comp_def] using this
theorem Words.has {V : View} {s : Sl} {l : List Nat} (h : Words V s l) : View.has V s.a (wv l) := by
  intro i v hi
  simp only [wv, List.getElem?_map, Option.map_eq_some_iff] at hi
  obtain ⟨d, hd, rfl⟩ := hi
  exact h.load i d hd

/-- What holds between the words of the quotient. -/
structure DivI (X vN n m j : Nat) (u qd : List Nat) : Prop where
  jl : j ≤ m - n
  wu : WB u
  lu : u.length = m
  wq : WB qd
  lq : qd.length = m - n
  eq : X = seg u 0 (j + n) + vN * (4294967296 ^ j * seg qd j (m - n - j))
  lt : seg u j n < vN

/-- One word more. -/
theorem DivI.next {X vN n m j R g : Nat} {u u' qd : List Nat} (hnm : n ≤ m) (h : DivI X vN n m (j + 1) u qd) (hR : seg u j (n + 1) = R + g * vN) (hlt : R < vN) (hg : g < 4294967296)
    (wu' : WB u') (lu' : u'.length = m) (lo : seg u' 0 j = seg u 0 j) (hi : seg u' j n = R) : DivI X vN n m j u' (qd.set j g) := by
  have hj := h.jl
  have hq := h.lq
  refine ⟨by omega, wu', lu', h.wq.set hg, by simpa using hq, ?_, by rw [hi]; exact hlt⟩
  rw [h.eq, show m - n - j = 1 + (m - n - (j + 1)) by omega, seg_split _ j 1, seg_set_out (j := j + 1) (by omega), seg_succ, seg_zero, Nat.add_zero, getD_set, if_pos ⟨rfl, by omega⟩, Nat.pow_zero, Nat.mul_one, Nat.zero_add, Nat.pow_one,
    show j + 1 + n = j + (n + 1) by omega, seg_split u 0 j (n + 1), seg_split u' 0 j n, lo, Nat.zero_add, hi, hR, Nat.pow_succ]
  grind

theorem seg_ext {l l' : List Nat} {j k : Nat} (h : ∀ i, j ≤ i → i < j + k → l'.getD i 0 = l.getD i 0) : seg l' j k = seg l j k :=
  ws_congr fun i hi => h _ (by omega) (by omega)

end Go.Proofs.Ytnbjnokgmeamdaa
