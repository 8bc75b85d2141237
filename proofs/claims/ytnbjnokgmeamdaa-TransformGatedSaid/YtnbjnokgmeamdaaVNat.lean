/- Natural numbers in words of 32 bits, and what is known of memory that holds them. No program in sight. -/
import Derived.Test.YtnbjnokgmeamdaaVcS
import Derived.IntWalk
namespace Go.Vc
open Go Go.RowKit

/-- The value of words, the lowest one first. -/
def wval : List Nat → Nat
  | [] => 0
  | d :: l => d + 4294967296 * wval l
/-- The words of a number, without zeros at the end. -/
def dig (n : Nat) : List Nat := if h : n = 0 then [] else n % 4294967296 :: dig (n / 4294967296)
termination_by n
decreasing_by omega
def WB (l : List Nat) : Prop := ∀ d ∈ l, d < 4294967296
def wv (l : List Nat) : List Value := l.map fun (d : Nat) => Value.int .u32 (d : Int)

theorem dig_zero : dig 0 = [] := by rw [dig]; simp
theorem dig_pos {n : Nat} (h : n ≠ 0) : dig n = n % 4294967296 :: dig (n / 4294967296) := by rw [dig]; simp [h]
theorem wval_dig (n : Nat) : wval (dig n) = n := by
  induction n using Nat.strongRecOn with
  | _ n ih =>
    by_cases h : n = 0
    · subst h; simp [dig_zero, wval]
    · rw [dig_pos h, wval, ih _ (by omega)]; omega
theorem WB_dig (n : Nat) : WB (dig n) := by
  induction n using Nat.strongRecOn with
  | _ n ih =>
    by_cases h : n = 0
    · subst h; simp [dig_zero, WB]
    · rw [dig_pos h]
      intro d hd
      rcases List.mem_cons.1 hd with rfl | hd
      · omega
      · exact ih _ (by omega) d hd
theorem wval_append (a b : List Nat) : wval (a ++ b) = wval a + 4294967296 ^ a.length * wval b := by
  induction a with
  | nil => simp [wval]
  | cons d l ih => simp only [List.cons_append, wval, ih, List.length_cons, Nat.pow_succ]; grind
theorem wval_lt {l : List Nat} (h : WB l) : wval l < 4294967296 ^ l.length := by
  induction l with
  | nil => simp [wval]
  | cons d l ih =>
    have h1 := ih (fun x hx => h x (by simp [hx]))
    have h2 := h d (by simp)
    simp only [wval, List.length_cons, Nat.pow_succ]
    omega
theorem wval_take_succ (l : List Nat) (i : Nat) : wval (l.take (i + 1)) = wval (l.take i) + l.getD i 0 * 4294967296 ^ i := by
  by_cases h : i < l.length
  · rw [List.take_succ_eq_append_getElem h, wval_append]
    have : (l.take i).length = i := by simp; omega
    rw [this]
    simp [wval, List.getD, h, Nat.mul_comm]
  · rw [List.take_of_length_le (by omega), List.take_of_length_le (by omega)]
    simp [List.getD, h]
theorem wval_take_all {l : List Nat} {i : Nat} (h : l.length ≤ i) : wval (l.take i) = wval l := by rw [List.take_of_length_le h]
theorem wval_set {l : List Nat} {i d : Nat} (h : i < l.length) : wval (l.set i d) + l.getD i 0 * 4294967296 ^ i = wval l + d * 4294967296 ^ i := by
  induction l generalizing i with
  | nil => simp at h
  | cons c l ih =>
    cases i with
    | zero => simp [wval]; omega
    | succ i =>
      have := ih (i := i) (by simpa using h)
      simp only [List.set_cons_succ, wval, List.getD_cons_succ, Nat.pow_succ]
      grind
theorem wval_take_set {l : List Nat} {i d : Nat} (h : i < l.length) : wval ((l.set i d).take (i + 1)) = wval (l.take i) + d * 4294967296 ^ i := by
  rw [wval_take_succ]
  have h1 : (l.set i d).take i = l.take i := by rw [List.take_set_of_le (Nat.le_refl i)]
  rw [h1]; simp [List.getD, h]
theorem wval_zeros (n : Nat) : wval (List.replicate n 0) = 0 := by
  induction n with
  | zero => rfl
  | succ n ih => simp [List.replicate_succ, wval, ih]
theorem wval_zero_of {l : List Nat} (h : ∀ d ∈ l, d = 0) : wval l = 0 := by
  induction l with
  | nil => rfl
  | cons d l ih => simp [wval, h d (by simp), ih (fun x hx => h x (by simp [hx]))]
theorem wval_drop (l : List Nat) (i : Nat) : wval l = wval (l.take i) + 4294967296 ^ (l.take i).length * wval (l.drop i) := by
  rw [← wval_append, List.take_append_drop]
/-- Words without a zero at the end are those of their value. -/
theorem dig_wval {l : List Nat} (h : WB l) (hl : ∀ d, l.getLast? = some d → d ≠ 0) : dig (wval l) = l := by
  induction l with
  | nil => simp [wval, dig_zero]
  | cons d l ih =>
    have hd := h d (by simp)
    have hb : WB l := fun x hx => h x (by simp [hx])
    have hne : wval (d :: l) ≠ 0 := by
      intro h0
      simp only [wval] at h0
      have hd0 : d = 0 := by omega
      have hw0 : wval l = 0 := by omega
      cases l with
      | nil => exact hl d (by simp) hd0
      | cons e l =>
        have h1 := ih hb (fun x hx => hl x (by simpa [List.getLast?_cons_cons] using hx))
        rw [hw0, dig_zero] at h1; simp at h1
    rw [dig_pos hne]
    simp only [wval]
    have e1 : (d + 4294967296 * wval l) % 4294967296 = d := by omega
    have e2 : (d + 4294967296 * wval l) / 4294967296 = wval l := by omega
    rw [e1, e2]
    cases l with
    | nil => simp [wval, dig_zero]
    | cons e l => rw [ih hb (fun x hx => hl x (by simpa [List.getLast?_cons_cons] using hx))]
theorem dig_last {n d : Nat} (h : (dig n).getLast? = some d) : d ≠ 0 := by
  induction n using Nat.strongRecOn with
  | _ n ih =>
    by_cases h0 : n = 0
    · subst h0; simp [dig_zero] at h
    · rw [dig_pos h0] at h
      by_cases h1 : n / 4294967296 = 0
      · rw [h1, dig_zero] at h; simp at h; omega
      · rw [dig_pos h1, List.getLast?_cons_cons, ← dig_pos h1] at h
        exact ih _ (by omega) h
/-- The number of words. -/
def wn (n : Nat) : Nat := (dig n).length
theorem wn_zero : wn 0 = 0 := by simp [wn, dig_zero]
theorem wn_eq_zero {n : Nat} : wn n = 0 ↔ n = 0 := by
  constructor
  · intro h
    rcases Nat.eq_zero_or_pos n with h0 | h0
    · exact h0
    · simp [wn, dig_pos (by omega : n ≠ 0)] at h
  · rintro rfl; exact wn_zero
theorem lt_wn (n : Nat) : n < 4294967296 ^ wn n := by
  have := wval_lt (WB_dig n)
  rwa [wval_dig] at this
theorem wn_le {n : Nat} (h : n ≠ 0) : 4294967296 ^ (wn n - 1) ≤ n := by
  induction n using Nat.strongRecOn with
  | _ n ih =>
    simp only [wn, dig_pos h, List.length_cons, Nat.add_sub_cancel]
    by_cases h1 : n / 4294967296 = 0
    · rw [h1, dig_zero]; simp; omega
    · have h2 := ih _ (by omega) h1
      have h3 : wn (n / 4294967296) ≠ 0 := by rw [Ne, wn_eq_zero]; exact h1
      have e : (dig (n / 4294967296)).length = wn (n / 4294967296) - 1 + 1 := by simp only [wn] at h3 ⊢; omega
      rw [e, Nat.pow_succ]
      have := Nat.mul_le_mul_right 4294967296 h2
      omega
theorem wn_le_of_lt {n k : Nat} (h : n < 4294967296 ^ k) : wn n ≤ k := by
  rcases Nat.eq_zero_or_pos n with h0 | h0
  · subst h0; simp [wn_zero]
  · rcases Nat.lt_or_ge k (wn n) with h1 | h1
    · exfalso
      have h2 := wn_le (by omega : n ≠ 0)
      have h3 : 4294967296 ^ k ≤ 4294967296 ^ (wn n - 1) := Nat.pow_le_pow_right (by omega) (by omega)
      omega
    · exact h1
theorem wn_mono {a b : Nat} (h : a ≤ b) : wn a ≤ wn b := wn_le_of_lt (Nat.lt_of_le_of_lt h (lt_wn b))
theorem wn_add_le (a b : Nat) : wn (a + b) ≤ max (wn a) (wn b) + 1 := by
  refine wn_le_of_lt ?_
  have h1 := lt_wn a
  have h2 := lt_wn b
  have h3 : 4294967296 ^ wn a ≤ 4294967296 ^ max (wn a) (wn b) := Nat.pow_le_pow_right (by omega) (by omega)
  have h4 : 4294967296 ^ wn b ≤ 4294967296 ^ max (wn a) (wn b) := Nat.pow_le_pow_right (by omega) (by omega)
  rw [Nat.pow_succ]; omega
theorem wn_mul_le (a b : Nat) : wn (a * b) ≤ wn a + wn b := by
  refine wn_le_of_lt ?_
  rw [Nat.pow_add]
  exact Nat.mul_lt_mul'' (lt_wn a) (lt_wn b)
theorem wn_lt_pow {n k : Nat} (h : n < 2 ^ (32 * k)) : wn n ≤ k := by
  refine wn_le_of_lt ?_
  have : (4294967296 : Nat) = 2 ^ 32 := rfl
  rw [this, ← Nat.pow_mul]; exact h

/-- A slice of words, as they lie in known memory. -/
structure Words (V : View) (s : Sl) (l : List Nat) : Prop where
  load : ∀ (i d : Nat), l[i]? = Option.some d → V.load (s.a.map (·.add i)) = some (.int .u32 (d : Int))
  len : s.len = l.length
  cap : s.len ≤ s.cap
  wb : WB l
/-- A slice that holds a natural number. -/
def NatAt (V : View) (s : Sl) (n : Nat) : Prop := Words V s (dig n)

theorem Words.le {V V' : View} {s : Sl} {l : List Nat} (hle : V.le V') (h : Words V s l) : Words V' s l :=
  ⟨fun i d hi => View.load_le hle (h.load i d hi), h.len, h.cap, h.wb⟩
theorem NatAt.le {V V' : View} {s : Sl} {n : Nat} (hle : V.le V') (h : NatAt V s n) : NatAt V' s n := Words.le hle h
theorem Words.isSome {V : View} {s : Sl} {l : List Nat} (h : Words V s l) (hl : 0 < s.len) : s.a.isSome = true := by
  have hl' : 0 < l.length := by rw [← h.len]; exact hl
  have := h.load 0 _ (List.getElem?_eq_getElem hl')
  cases ha : s.a with
  | none => rw [ha] at this; simp [View.load] at this
  | some a => rfl
theorem Words.get {V : View} {s : Sl} {l : List Nat} (h : Words V s l) {i : Int} (h0 : 0 ≤ i) (h1 : i < s.len) :
    V.load (Option.map (fun q => Addr.add q (Int.toNat i * 1)) s.a) = some (.int .u32 (l.getD i.toNat 0 : Nat)) := by
  have hi : i.toNat < l.length := by have := h.len; omega
  have := h.load i.toNat _ (List.getElem?_eq_getElem hi)
  simpa [List.getD, hi] using this
theorem Words.getD_lt {V : View} {s : Sl} {l : List Nat} (h : Words V s l) (i : Nat) : l.getD i 0 < 4294967296 := by
  by_cases hi : i < l.length
  · have := h.wb (l[i]) (List.getElem_mem _)
    simpa [List.getD, hi] using this
  · simp [List.getD, hi]
theorem WB.getD {l : List Nat} (h : WB l) (i : Nat) : l.getD i 0 < 4294967296 := by
  by_cases hi : i < l.length
  · have := h (l[i]) (List.getElem_mem _)
    simpa [List.getD, hi] using this
  · simp [List.getD, hi]
theorem WB.set {l : List Nat} (h : WB l) {i d : Nat} (hd : d < 4294967296) : WB (l.set i d) := by
  intro x hx
  rcases List.mem_or_eq_of_mem_set hx with h1 | h1
  · exact h x h1
  · omega
theorem WB.zeros (n : Nat) : WB (List.replicate n 0) := fun d hd => by rw [(List.mem_replicate.1 hd).2]; omega
theorem WB.take {l : List Nat} (h : WB l) (n : Nat) : WB (l.take n) := fun d hd => h d (List.mem_of_mem_take hd)
theorem WB.drop {l : List Nat} (h : WB l) (n : Nat) : WB (l.drop n) := fun d hd => h d (List.mem_of_mem_drop hd)
theorem Words.nil (V : View) : Words V (Sl.mk none 0 0) [] := ⟨fun i d h => by simp at h, rfl, by simp, fun d h => by simp at h⟩
theorem NatAt.zero (V : View) : NatAt V (Sl.mk none 0 0) 0 := by unfold NatAt; rw [dig_zero]; exact Words.nil V
theorem Words.nat {V : View} {s : Sl} {l : List Nat} (h : Words V s l) (hl : ∀ d, l.getLast? = some d → d ≠ 0) : NatAt V s (wval l) := by
  unfold NatAt; rw [dig_wval h.wb hl]; exact h
theorem Words.inj {V : View} {s : Sl} {a b : List Nat} (h1 : Words V s a) (h2 : Words V s b) : a = b := by
  have l1 := h1.len
  have l2 := h2.len
  apply List.ext_getElem?
  intro j
  by_cases hj : j < a.length
  · have g1 := h1.load j _ (List.getElem?_eq_getElem hj)
    have g2 := h2.load j _ (List.getElem?_eq_getElem (by omega))
    rw [g1] at g2
    simp only [Option.some.injEq, Value.int.injEq, true_and] at g2
    rw [List.getElem?_eq_getElem hj, List.getElem?_eq_getElem (by omega)]
    congr 1
    omega
  · rw [List.getElem?_eq_none (by omega), List.getElem?_eq_none (by omega)]
theorem NatAt.inj {V : View} {s : Sl} {a b : Nat} (h1 : NatAt V s a) (h2 : NatAt V s b) : a = b := by
  rw [← wval_dig a, ← wval_dig b, Words.inj h1 h2]
theorem NatAt.isSome {V : View} {s : Sl} {n : Nat} (h : NatAt V s n) (hl : 0 < s.len) : s.a.isSome = true := Words.isSome h hl
theorem NatAt.get {V : View} {s : Sl} {n : Nat} (h : NatAt V s n) {i : Int} (h0 : 0 ≤ i) (h1 : i < s.len) :
    V.load (Option.map (fun q => Addr.add q (Int.toNat i * 1)) s.a) = some (.int .u32 ((dig n).getD i.toNat 0 : Nat)) := Words.get h h0 h1
theorem NatAt.getD_lt {V : View} {s : Sl} {n : Nat} (h : NatAt V s n) (i : Nat) : (dig n).getD i 0 < 4294967296 := Words.getD_lt h i
theorem NatAt.len {V : View} {s : Sl} {n : Nat} (h : NatAt V s n) : s.len = (dig n).length := Words.len h
/-- A block that is wholly known. -/
theorem Words.of_block {V : View} {b : Nat} {l : List Nat} {n c : Nat} (hb : V b = .some (wv l).toArray) (hn : n = l.length) (hc : n ≤ c) (hw : WB l) : Words V (Sl.mk (.some (Addr.mk b 0 none)) n c) l := by
  refine ⟨fun i d hi => ?_, hn, hc, hw⟩
  by_cases e : i = 0
  · subst e; simp [View.load, Addr.add, hb, wv, hi]
  · simp [View.load, Addr.add, hb, wv, hi, e]
theorem wv_length (l : List Nat) : (wv l).length = l.length := by simp [wv]
theorem wv_get {l : List Nat} {i : Nat} (h : i < l.length) : (wv l)[i]? = .some (.int .u32 (l.getD i 0 : Nat)) := by simp [wv, List.getD, h]
theorem wv_set (l : List Nat) (i d : Nat) : (wv l).set i (.int .u32 (d : Nat)) = wv (l.set i d) := by simp [wv, List.map_set]
theorem wv_zeros (n : Nat) : (List.replicate n [Value.int .u32 0]).flatten = wv (List.replicate n 0) := by
  induction n with
  | zero => rfl
  | succ n ih => simp [List.replicate_succ, ih, wv]

/-- The number that a slice holds. -/
def natVal (V : View) (s : Sl) : Nat := wval ((List.range s.len).map fun i => match V.load (s.a.map (·.add i)) with | .some (.int _ n) => n.toNat | _ => 0)
theorem natVal_eq {V : View} {s : Sl} {n : Nat} (h : NatAt V s n) : natVal V s = n := by
  unfold natVal
  have e : ((List.range s.len).map fun i => match V.load (s.a.map (·.add i)) with | .some (.int _ n) => n.toNat | _ => 0) = dig n := by
    apply List.ext_getElem?
    intro i
    have hl := h.len
    by_cases hi : i < s.len
    · have := Words.load h i _ (List.getElem?_eq_getElem (by omega))
      simp [hi, this, List.getElem?_eq_getElem (by omega : i < (dig n).length)]
    · rw [List.getElem?_eq_none (by simp; omega), List.getElem?_eq_none (by omega)]
  rw [e, wval_dig]
theorem i64w {n : Int} (h0 : -9223372036854775808 ≤ n) (h1 : n ≤ 9223372036854775807) : IntKind.i64.wrap n = n := IntWalk.i64_in n ⟨h0, h1⟩
theorem u64w {n : Int} (h0 : 0 ≤ n) (h1 : n ≤ 18446744073709551615) : IntKind.u64.wrap n = n := IntWalk.u64_in n ⟨h0, h1⟩
theorem u32w {n : Int} (h0 : 0 ≤ n) (h1 : n ≤ 4294967295) : IntKind.u32.wrap n = n := IntWalk.u32_in n ⟨h0, h1⟩
theorem u32m (n : Int) : IntKind.u32.wrap n = n % 4294967296 := by rw [IntKind.wrap_u32]
theorem u64m (n : Int) : IntKind.u64.wrap n = n % 18446744073709551616 := by simp [IntKind.wrap, IntKind.signed, IntKind.bits]

end Go.Vc
