/- Part. -/
import Derived.Test.YtkibfmnkkiakoaaGreatGRt1
import Derived.WalkKit
import Derived.ProofKit
import Derived.OpenShut
import Derived.IntWalk
import GoSem.Core.Float
namespace Go.Vc
open Go Go.ChangeShapes Go.RowKit
theorem Y0u {P : Program} {f : FuncId} {args : Array Value} {r : Value} (h : a00 P f args (fun _ => none) fun v _ => v = r) (w : World) :
 Calls P f args w fun e w' => e = .returned r ∧ Below w.heap.size w w' :=
 (h w (fun b cs hb => by simp at hb)).mono fun _ _ ⟨_, _, he, _, _, _, hb, hr⟩ => ⟨by rw [he, hr], hb⟩
end Go.Vc
namespace Go.Vc
open Go Go.RowKit
open Go.IntKind (i64 u64 u32 u8)
def wval : List Nat → Nat
 | [] => 0
 | d :: l => d + 4294967296 * wval l
def dig (n : Nat) : List Nat := if h : n = 0 then [] else n % 4294967296 :: dig (n / 4294967296)
termination_by n
decreasing_by omega
def WB (l : List Nat) : Prop := ∀ d ∈ l, d < 4294967296
def wv (l : List Nat) : List Value := l.map fun (d : Nat) => Value.int .u32 (d : Int)
theorem b02 : dig 0 = [] := by rw [dig]; simp
theorem Z02 {n : Nat} (h : n ≠ 0) : dig n = n % 4294967296 :: dig (n / 4294967296) := by rw [dig]; simp [h]
theorem n00 (n : Nat) : wval (dig n) = n := by
 induction n using Nat.strongRecOn with
 | _ n ih =>
   by_cases h : n = 0
   · subst h; simp [b02, wval]
   · rw [Z02 h, wval, ih _ (by omega)]; omega
theorem q02 (n : Nat) : WB (dig n) := by
 induction n using Nat.strongRecOn with
 | _ n ih =>
   by_cases h : n = 0
   · subst h; simp [b02, WB]
   · rw [Z02 h]
     intro d hd
     rcases List.mem_cons.1 hd with rfl | hd
     · omega
     · exact ih _ (by omega) d hd
theorem T09 (a b : List Nat) : wval (a ++ b) = wval a + 4294967296 ^ a.length * wval b := by
 induction a with
 | nil => simp [wval]
 | cons d l ih => simp only [List.cons_append, wval, ih, List.length_cons, Nat.pow_succ]; grind
theorem J0b {l : List Nat} (h : WB l) : wval l < 4294967296 ^ l.length := by
 induction l with
 | nil => simp [wval]
 | cons d l ih =>
   have h1 := ih (fun x hx => h x (by simp [hx]))
   have h2 := h d (by simp)
   simp only [wval, List.length_cons, Nat.pow_succ]
   omega
theorem f00 (l : List Nat) (i : Nat) : wval (l.take (i + 1)) = wval (l.take i) + l.getD i 0 * 4294967296 ^ i := by
 by_cases h : i < l.length
 · rw [List.take_succ_eq_append_getElem h, T09]
   have : (l.take i).length = i := by simp; omega
   rw [this]
   simp [wval, List.getD, h, Nat.mul_comm]
 · rw [List.take_of_length_le (by omega), List.take_of_length_le (by omega)]
   simp [List.getD, h]
theorem i00 {l : List Nat} {i : Nat} (h : l.length ≤ i) : wval (l.take i) = wval l := by rw [List.take_of_length_le h]
theorem H03 {l : List Nat} {i d : Nat} (h : i < l.length) : wval ((l.set i d).take (i + 1)) = wval (l.take i) + d * 4294967296 ^ i := by
 rw [f00]
 have h1 : (l.set i d).take i = l.take i := by rw [List.take_set_of_le (Nat.le_refl i)]
 rw [h1]; simp [List.getD, h]
theorem A0p (n : Nat) : wval (List.replicate n 0) = 0 := by
 induction n with
 | zero => rfl
 | succ n ih => simp [List.replicate_succ, wval, ih]
theorem n0c {l : List Nat} (h : ∀ d ∈ l, d = 0) : wval l = 0 := by
 induction l with
 | nil => rfl
 | cons d l ih => simp [wval, h d (by simp), ih (fun x hx => h x (by simp [hx]))]
theorem E0a (l : List Nat) (i : Nat) : wval l = wval (l.take i) + 4294967296 ^ (l.take i).length * wval (l.drop i) := by
 rw [← T09, List.take_append_drop]
theorem J0s {l : List Nat} (h : WB l) (hl : ∀ d, l.getLast? = some d → d ≠ 0) : dig (wval l) = l := by
 induction l with
 | nil => simp [wval, b02]
 | cons d l ih =>
   have hd := h d (by simp)
   have hb : WB l := fun x hx => h x (by simp [hx])
   have hne : wval (d :: l) ≠ 0 := by
    intro h0
    simp only [wval] at h0
    have hd0 : d = 0 := by omega
    have hw0 : wval l = 0 := by omega
    cases l with
    | nil => exact hl d (by simp) hd0
    | cons e l =>
      have h1 := ih hb (fun x hx => hl x (by simpa [List.getLast?_cons_cons] using hx))
      rw [hw0, b02] at h1; simp at h1
   rw [Z02 hne]
   simp only [wval]
   have e1 : (d + 4294967296 * wval l) % 4294967296 = d := by omega
   have e2 : (d + 4294967296 * wval l) / 4294967296 = wval l := by omega
   rw [e1, e2]
   cases l with
   | nil => simp [wval, b02]
   | cons e l => rw [ih hb (fun x hx => hl x (by simpa [List.getLast?_cons_cons] using hx))]
theorem f0n {n d : Nat} (h : (dig n).getLast? = some d) : d ≠ 0 := by
 induction n using Nat.strongRecOn with
 | _ n ih =>
   by_cases h0 : n = 0
   · subst h0; simp [b02] at h
   · rw [Z02 h0] at h
     by_cases h1 : n / 4294967296 = 0
     · rw [h1, b02] at h; simp at h; omega
     · rw [Z02 h1, List.getLast?_cons_cons, ← Z02 h1] at h
       exact ih _ (by omega) h
def wn (n : Nat) : Nat := (dig n).length
theorem J04 : wn 0 = 0 := by simp [wn, b02]
theorem F02 {n : Nat} : wn n = 0 ↔ n = 0 := by
 constructor
 · intro h
   rcases Nat.eq_zero_or_pos n with h0 | h0
   · exact h0
   · simp [wn, Z02 (by omega : n ≠ 0)] at h
 · rintro rfl; exact J04
theorem U09 (n : Nat) : n < 4294967296 ^ wn n := by
 have := J0b (q02 n)
 rwa [n00] at this
theorem e0w {n : Nat} (h : n ≠ 0) : 4294967296 ^ (wn n - 1) ≤ n := by
 induction n using Nat.strongRecOn with
 | _ n ih =>
   simp only [wn, Z02 h, List.length_cons, Nat.add_sub_cancel]
   by_cases h1 : n / 4294967296 = 0
   · rw [h1, b02]; simp; omega
   · have h2 := ih _ (by omega) h1
     have h3 : wn (n / 4294967296) ≠ 0 := by rw [Ne, F02]; exact h1
     have e : (dig (n / 4294967296)).length = wn (n / 4294967296) - 1 + 1 := by simp only [wn] at h3 ⊢; omega
     rw [e, Nat.pow_succ]
     have := Nat.mul_le_mul_right 4294967296 h2
     omega
theorem M02 {n k : Nat} (h : n < 4294967296 ^ k) : wn n ≤ k := by
 rcases Nat.eq_zero_or_pos n with h0 | h0
 · subst h0; simp [J04]
 · rcases Nat.lt_or_ge k (wn n) with h1 | h1
   · exfalso
     have h2 := e0w (by omega : n ≠ 0)
     have h3 : 4294967296 ^ k ≤ 4294967296 ^ (wn n - 1) := Nat.pow_le_pow_right (by omega) (by omega)
     omega
   · exact h1
theorem K04 {a b : Nat} (h : a ≤ b) : wn a ≤ wn b := M02 (Nat.lt_of_le_of_lt h (U09 b))
theorem e0k (a b : Nat) : wn (a + b) ≤ max (wn a) (wn b) + 1 := by
 refine M02 ?_
 have h1 := U09 a
 have h2 := U09 b
 have h3 : 4294967296 ^ wn a ≤ 4294967296 ^ max (wn a) (wn b) := Nat.pow_le_pow_right (by omega) (by omega)
 have h4 : 4294967296 ^ wn b ≤ 4294967296 ^ max (wn a) (wn b) := Nat.pow_le_pow_right (by omega) (by omega)
 rw [Nat.pow_succ]; omega
theorem C05 (a b : Nat) : wn (a * b) ≤ wn a + wn b := by
 refine M02 ?_
 rw [Nat.pow_add]
 exact Nat.mul_lt_mul'' (U09 a) (U09 b)
theorem Z0q {n k : Nat} (h : n < 2 ^ (32 * k)) : wn n ≤ k := by
 refine M02 ?_
 have : (4294967296 : Nat) = 2 ^ 32 := rfl
 rw [this, ← Nat.pow_mul]; exact h
structure z00 (V : View) (s : Sl) (l : List Nat) : Prop where
 load : ∀ (i d : Nat), l[i]? = Option.some d → V.load (s.a.map (·.add i)) = some (.int .u32 (d : Int))
 len : s.len = l.length
 cap : s.len ≤ s.cap
 wb : WB l
def e00 (V : View) (s : Sl) (n : Nat) : Prop := z00 V s (dig n)
theorem z00.le {V V' : View} {s : Sl} {l : List Nat} (hle : V.le V') (h : z00 V s l) : z00 V' s l :=
 ⟨fun i d hi => a02 hle (h.load i d hi), h.len, h.cap, h.wb⟩
theorem e00.le {V V' : View} {s : Sl} {n : Nat} (hle : V.le V') (h : e00 V s n) : e00 V' s n := z00.le hle h
theorem z00.isSome {V : View} {s : Sl} {l : List Nat} (h : z00 V s l) (hl : 0 < s.len) : s.a.isSome = true := by
 have hl' : 0 < l.length := by rw [← h.len]; exact hl
 have := h.load 0 _ (List.getElem?_eq_getElem hl')
 cases ha : s.a with
 | none => rw [ha] at this; simp [View.load] at this
 | some a => rfl
theorem z00.get {V : View} {s : Sl} {l : List Nat} (h : z00 V s l) {i : Int} (h0 : 0 ≤ i) (h1 : i < s.len) :
 V.load (Option.map (fun q => Addr.add q (Int.toNat i * 1)) s.a) = some (.int .u32 (l.getD i.toNat 0 : Nat)) := by
 have hi : i.toNat < l.length := by have := h.len; omega
 have := h.load i.toNat _ (List.getElem?_eq_getElem hi)
 simpa [List.getD, hi] using this
theorem z00.getD_lt {V : View} {s : Sl} {l : List Nat} (h : z00 V s l) (i : Nat) : l.getD i 0 < 4294967296 := by
 by_cases hi : i < l.length
 · have := h.wb (l[i]) (List.getElem_mem _)
   simpa [List.getD, hi] using this
 · simp [List.getD, hi]
theorem WB.getD {l : List Nat} (h : WB l) (i : Nat) : l.getD i 0 < 4294967296 := by
 by_cases hi : i < l.length
 · have := h (l[i]) (List.getElem_mem _)
   simpa [List.getD, hi] using this
 · simp [List.getD, hi]
theorem WB.set {l : List Nat} (h : WB l) {i d : Nat} (hd : d < 4294967296) : WB (l.set i d) := by
 intro x hx
 rcases List.mem_or_eq_of_mem_set hx with h1 | h1
 · exact h x h1
 · omega
theorem WB.zeros (n : Nat) : WB (List.replicate n 0) := fun d hd => by rw [(List.mem_replicate.1 hd).2]; omega
theorem WB.take {l : List Nat} (h : WB l) (n : Nat) : WB (l.take n) := fun d hd => h d (List.mem_of_mem_take hd)
theorem WB.drop {l : List Nat} (h : WB l) (n : Nat) : WB (l.drop n) := fun d hd => h d (List.mem_of_mem_drop hd)
theorem z00.nil (V : View) : z00 V (Sl.mk none 0 0) [] := ⟨fun i d h => by simp at h, rfl, by simp, fun d h => by simp at h⟩
theorem e00.zero (V : View) : e00 V (Sl.mk none 0 0) 0 := by unfold e00; rw [b02]; exact z00.nil V
theorem z00.nat {V : View} {s : Sl} {l : List Nat} (h : z00 V s l) (hl : ∀ d, l.getLast? = some d → d ≠ 0) : e00 V s (wval l) := by
 unfold e00; rw [J0s h.wb hl]; exact h
theorem z00.inj {V : View} {s : Sl} {a b : List Nat} (h1 : z00 V s a) (h2 : z00 V s b) : a = b := by
 have l1 := h1.len
 have l2 := h2.len
 apply List.ext_getElem?
 intro j
 by_cases hj : j < a.length
 · have g1 := h1.load j _ (List.getElem?_eq_getElem hj)
   have g2 := h2.load j _ (List.getElem?_eq_getElem (by omega))
   rw [g1] at g2
   simp only [Option.some.injEq, Value.int.injEq, true_and] at g2
   rw [List.getElem?_eq_getElem hj, List.getElem?_eq_getElem (by omega)]
   congr 1
   omega
 · rw [List.getElem?_eq_none (by omega), List.getElem?_eq_none (by omega)]
theorem e00.inj {V : View} {s : Sl} {a b : Nat} (h1 : e00 V s a) (h2 : e00 V s b) : a = b := by
 rw [← n00 a, ← n00 b, z00.inj h1 h2]
theorem e00.isSome {V : View} {s : Sl} {n : Nat} (h : e00 V s n) (hl : 0 < s.len) : s.a.isSome = true := z00.isSome h hl
theorem e00.get {V : View} {s : Sl} {n : Nat} (h : e00 V s n) {i : Int} (h0 : 0 ≤ i) (h1 : i < s.len) :
 V.load (Option.map (fun q => Addr.add q (Int.toNat i * 1)) s.a) = some (.int .u32 ((dig n).getD i.toNat 0 : Nat)) := z00.get h h0 h1
theorem e00.getD_lt {V : View} {s : Sl} {n : Nat} (h : e00 V s n) (i : Nat) : (dig n).getD i 0 < 4294967296 := z00.getD_lt h i
theorem e00.len {V : View} {s : Sl} {n : Nat} (h : e00 V s n) : s.len = (dig n).length := z00.len h
theorem z00.of_block {V : View} {b : Nat} {l : List Nat} {n c : Nat} (hb : V b = .some (wv l).toArray) (hn : n = l.length) (hc : n ≤ c) (hw : WB l) : z00 V (Sl.mk (.some (Addr.mk b 0 none)) n c) l := by
 refine ⟨fun i d hi => ?_, hn, hc, hw⟩
 by_cases e : i = 0
 · subst e; simp [View.load, Addr.add, hb, wv, hi]
 · simp [View.load, Addr.add, hb, wv, hi, e]
theorem g00 (l : List Nat) : (wv l).length = l.length := by simp [wv]
theorem U04 {l : List Nat} {i : Nat} (h : i < l.length) : (wv l)[i]? = .some (.int .u32 (l.getD i 0 : Nat)) := by simp [wv, List.getD, h]
theorem D02 (l : List Nat) (i d : Nat) : (wv l).set i (.int .u32 (d : Nat)) = wv (l.set i d) := by simp [wv, List.map_set]
theorem B02 (n : Nat) : (List.replicate n [Value.int .u32 0]).flatten = wv (List.replicate n 0) := by
 induction n with
 | zero => rfl
 | succ n ih => simp [List.replicate_succ, ih, wv]
def f0k (V : View) (s : Sl) : Nat := wval ((List.range s.len).map fun i => match V.load (s.a.map (·.add i)) with | .some (.int _ n) => n.toNat | _ => 0)
theorem g07 {V : View} {s : Sl} {n : Nat} (h : e00 V s n) : f0k V s = n := by
 unfold f0k
 have e : ((List.range s.len).map fun i => match V.load (s.a.map (·.add i)) with | .some (.int _ n) => n.toNat | _ => 0) = dig n := by
  apply List.ext_getElem?
  intro i
  have hl := h.len
  by_cases hi : i < s.len
  · have := z00.load h i _ (List.getElem?_eq_getElem (by omega))
    simp [hi, this, List.getElem?_eq_getElem (by omega : i < (dig n).length)]
  · rw [List.getElem?_eq_none (by simp; omega), List.getElem?_eq_none (by omega)]
 rw [e, n00]
theorem i64w {n : Int} (h0 : -9223372036854775808 ≤ n) (h1 : n ≤ 9223372036854775807) : i64.wrap n = n := IntWalk.i64_in n ⟨h0, h1⟩
theorem u64w {n : Int} (h0 : 0 ≤ n) (h1 : n ≤ 18446744073709551615) : u64.wrap n = n := IntWalk.u64_in n ⟨h0, h1⟩
theorem u32w {n : Int} (h0 : 0 ≤ n) (h1 : n ≤ 4294967295) : u32.wrap n = n := IntWalk.u32_in n ⟨h0, h1⟩
theorem u32m (n : Int) : u32.wrap n = n % 4294967296 := by rw [IntKind.wrap_u32]
theorem u64m (n : Int) : u64.wrap n = n % 18446744073709551616 := by simp [IntKind.wrap, IntKind.signed, IntKind.bits]

def ws (f : Nat → Nat) : Nat → Nat
 | 0 => 0
 | n + 1 => ws f n + f n * 4294967296 ^ n
theorem J0h {f g : Nat → Nat} {n : Nat} (h : ∀ i, i < n → f i = g i) : ws f n = ws g n := by
 induction n with
 | zero => rfl
 | succ n ih => simp only [ws]; rw [ih (fun i hi => h i (by omega)), h n (by omega)]
theorem p0u (l : List Nat) (n : Nat) : ws (fun i => l.getD i 0) n = wval (l.take n) := by
 induction n with
 | zero => simp [ws, wval]
 | succ n ih => rw [f00, ← ih]; rfl
theorem f0w {f : Nat → Nat} {n : Nat} (h : ∀ i, i < n → f i < 4294967296) : ws f n < 4294967296 ^ n := by
 induction n with
 | zero => simp [ws]
 | succ n ih =>
   have h1 := ih (fun i hi => h i (by omega))
   have h2 := Nat.mul_le_mul_right (4294967296 ^ n) (Nat.succ_le_of_lt (h n (by omega)))
   simp only [ws, Nat.pow_succ]
   rw [Nat.succ_mul] at h2
   omega
theorem o0v (f : Nat → Nat) (m n : Nat) : ws f (m + n) = ws f m + 4294967296 ^ m * ws (fun i => f (m + i)) n := by
 induction n with
 | zero => simp [ws]
 | succ n ih =>
   show ws f (m + n) + f (m + n) * 4294967296 ^ (m + n) = _
   rw [ih]; simp only [ws, Nat.pow_add, Nat.mul_add]; grind
def seg (l : List Nat) (j k : Nat) : Nat := ws (fun i => l.getD (j + i) 0) k
theorem P02 (l : List Nat) (j : Nat) : seg l j 0 = 0 := rfl
theorem Z00 (l : List Nat) (j k : Nat) : seg l j (k + 1) = seg l j k + l.getD (j + k) 0 * 4294967296 ^ k := rfl
theorem K0h (l : List Nat) (k : Nat) : seg l 0 k = wval (l.take k) := by
 unfold seg; simp only [Nat.zero_add]; exact p0u l k
theorem q04 {l : List Nat} {k : Nat} (h : l.length ≤ k) : seg l 0 k = wval l := by rw [K0h, i00 h]
theorem L04 (l : List Nat) (j m n : Nat) : seg l j (m + n) = seg l j m + 4294967296 ^ m * seg l (j + m) n := by
 unfold seg; rw [o0v]
 congr 2
 exact J0h fun i _ => by rw [Nat.add_assoc]
theorem Q07 {l : List Nat} (h : WB l) (j k : Nat) : seg l j k < 4294967296 ^ k := f0w fun _ _ => h.getD _
theorem n03 (l : List Nat) (p d i : Nat) : (l.set p d).getD i 0 = if i = p ∧ p < l.length then d else l.getD i 0 := by
 simp only [List.getD, List.getElem?_set]
 by_cases e : p = i
 · subst e
   by_cases h : p < l.length
   · simp [h]
   · simp [h]
 · have e' : ¬ i = p := fun x => e x.symm
   simp [e, e']
theorem X04 {l : List Nat} {p d j k : Nat} (h : p < j ∨ j + k ≤ p) : seg (l.set p d) j k = seg l j k := by
 refine J0h fun i hi => ?_
 rw [n03, if_neg (by omega)]
theorem c01 {l : List Nat} {p d j k : Nat} (hp : p = j + k) (hl : p < l.length) : seg (l.set p d) j (k + 1) = seg l j k + d * 4294967296 ^ k := by
 rw [Z00, X04 (by omega), n03, if_pos (by omega)]
theorem L0h {l : List Nat} {p d j k : Nat} (h1 : j ≤ p) (h2 : p < j + k) (hl : p < l.length) : seg (l.set p d) j k + l.getD p 0 * 4294967296 ^ (p - j) = seg l j k + d * 4294967296 ^ (p - j) := by
 induction k with
 | zero => omega
 | succ k ih =>
   rcases Nat.lt_or_ge p (j + k) with h | h
   · have := ih h
     rw [Z00, Z00, n03, if_neg (by omega)]; omega
   · have e : p = j + k := by omega
     rw [c01 e hl, Z00, show p - j = k by omega, ← e]; omega
theorem M0h (n j k : Nat) : seg (List.replicate n 0) j k = 0 := by
 induction k with
 | zero => rfl
 | succ k ih =>
   rw [Z00, ih]
   have : (List.replicate n 0).getD (j + k) 0 = 0 := by
    simp only [List.getD, List.getElem?_replicate]; split <;> rfl
   rw [this]; simp
theorem K0s {B v1 v2 P V W guess rest top u0 : Nat} (hV : V ≤ (v1 * B + v2 + 1) * P) (hW : (top * B + u0) * P ≤ W)
 (hg : guess * v1 + rest = top) (hc : guess * v2 ≤ rest * B + u0) (hB : guess ≤ v1 * B + v2 + 1) : (guess - 1) * V ≤ W := by
 rcases Nat.eq_zero_or_pos guess with h0 | h0
 · subst h0; simp
 obtain ⟨g, rfl⟩ : ∃ g, guess = g + 1 := ⟨guess - 1, by omega⟩
 simp only [Nat.add_sub_cancel]
 have h1 : (g + 1) * (v1 * B + v2) ≤ top * B + u0 := by
  subst hg
  have : (g + 1) * (v1 * B + v2) = (g + 1) * v1 * B + (g + 1) * v2 := by grind
  have h2 : ((g + 1) * v1 + rest) * B = (g + 1) * v1 * B + rest * B := by grind
  omega
 have h2 : g * (v1 * B + v2 + 1) ≤ (g + 1) * (v1 * B + v2) := by
  have : g * (v1 * B + v2 + 1) = g * (v1 * B + v2) + g := by grind
  have h3 : (g + 1) * (v1 * B + v2) = g * (v1 * B + v2) + (v1 * B + v2) := by grind
  omega
 have h3 := Nat.mul_le_mul_left g hV
 have h4 := Nat.mul_le_mul_right P (Nat.le_trans h2 h1)
 have e : g * ((v1 * B + v2 + 1) * P) = g * (v1 * B + v2 + 1) * P := by grind
 omega
end Go.Vc
namespace Go.Vc
open Go
theorem g0k (X : BitVec IntKind.u32.bits) : IntKind.u32.wrap (X.toNat : Int) = X.toNat := by
 have h : X.toNat < 4294967296 := X.isLt
 exact u32w (by omega) (by omega)
theorem i0k {w : Nat} (X : BitVec w) : BitVec.ofInt w (X.toNat : Int) = X := by
 rw [BitVec.ofInt_natCast, BitVec.ofNat_toNat, BitVec.setWidth_eq]
theorem of32 {n : Nat} (h : n < 4294967296) : (BitVec.ofInt 32 (n : Int)).toNat = n := by
 rw [BitVec.ofInt_natCast, BitVec.toNat_ofNat]; exact Nat.mod_eq_of_lt h
theorem of64 {n : Nat} (h : n < 18446744073709551616) : (BitVec.ofInt 64 (n : Int)).toNat = n := by
 rw [BitVec.ofInt_natCast, BitVec.toNat_ofNat]; exact Nat.mod_eq_of_lt h
theorem or64 {a b : Nat} (ha : a < 4294967296) (hb : b < 4294967296) :
 BitVec.toNat ((BitVec.ofInt IntKind.u64.bits (((b * 4294967296 : Nat)) : Int)) ||| (BitVec.ofInt IntKind.u64.bits ((a : Nat) : Int))) = b * 4294967296 + a := by
 have e : IntKind.u64.bits = 64 := rfl
 rw [e, BitVec.ofInt_natCast, BitVec.ofInt_natCast, BitVec.toNat_or, BitVec.toNat_ofNat, BitVec.toNat_ofNat, Nat.mod_eq_of_lt (by omega), Nat.mod_eq_of_lt (by omega)]
 have := Nat.two_pow_add_eq_or_of_lt (i := 32) (b := a) (by omega) b
 rw [show b * 4294967296 = 2 ^ 32 * b by omega, ← this]
theorem p0v {a b : Nat} (ha : a < 4294967296) (hb : b < 4294967296) :
 BitVec.toNat ((BitVec.ofInt IntKind.u64.bits ((a : Nat) : Int)) ||| (BitVec.ofInt IntKind.u64.bits (((b * 4294967296 : Nat)) : Int))) = b * 4294967296 + a := by
 rw [BitVec.or_comm]; exact or64 ha hb
theorem g0w (X : BitVec IntKind.u32.bits) : Int.fdiv (X.toNat : Int) (2 ^ (min (Int.toNat 31) (IntKind.u32.bits))) = X.msb.toNat := by
 have e : (2 : Int) ^ (min (Int.toNat 31) (IntKind.u32.bits)) = 2147483648 := by decide
 have h : X.toNat < 4294967296 := X.isLt
 rw [e, Int.fdiv_eq_ediv_of_nonneg _ (by omega), BitVec.msb_eq_decide]
 have e2 : 2 ^ (IntKind.u32.bits - 1) = 2147483648 := by decide
 rw [e2]
 by_cases hx : 2147483648 ≤ X.toNat
 · simp [hx]; omega
 · simp [hx]; omega
theorem a0r {x y b : Nat} (hx : x < 4294967296) (hy : y < 4294967296) (hb : b ≤ 1) (X Y D : BitVec 32) (hX : X.toNat = x) (hY : Y.toNat = y) (hD : D.toNat = (x + 8589934592 - y - b) % 4294967296) (M : BitVec 32) (hM : M = BitVec.allOnes 32) :
 (((M ^^^ X) &&& Y) ||| ((M ^^^ (X ^^^ Y)) &&& D)).msb.toNat = if x < y + b then 1 else 0 := by
 subst hM
 simp only [BitVec.msb_or, BitVec.msb_and, BitVec.msb_xor, BitVec.msb_allOnes (w := 32) (by omega)]
 simp only [BitVec.msb_eq_decide, hX, hY, hD]
 have e2 : 2 ^ (32 - 1) = 2147483648 := by decide
 rw [e2]
 by_cases h1 : 2147483648 ≤ x <;> by_cases h2 : 2147483648 ≤ y <;> by_cases h3 : 2147483648 ≤ (x + 8589934592 - y - b) % 4294967296 <;> simp [h1, h2, h3] <;> omega
theorem a0d (a i : Nat) : (dig a).getD i 0 = a / 4294967296 ^ i % 4294967296 := by
 induction i generalizing a with
 | zero =>
   by_cases h : a = 0
   · subst h; simp [b02]
   · rw [Z02 h]; simp
 | succ i ih =>
   by_cases h : a = 0
   · subst h; simp [b02]
   · rw [Z02 h, List.getD_cons_succ, ih, Nat.pow_succ, Nat.mul_comm, Nat.div_div_eq_div_mul]
def bl (n : Nat) : Nat := if n = 0 then 0 else Nat.log2 n + 1
theorem Y04 : bl 0 = 0 := by simp [bl]
theorem K0b (n : Nat) : n < 2 ^ bl n := by
 unfold bl; split
 · omega
 · exact Nat.lt_log2_self
theorem F0a {n : Nat} (h : n ≠ 0) : 2 ^ (bl n - 1) ≤ n := by
 simp only [bl, h, if_false, Nat.add_sub_cancel]; exact Nat.log2_self_le h
theorem Q0d {n : Nat} (h : n ≠ 0) : 0 < bl n := by simp [bl, h]
theorem i0w {n k : Nat} (h1 : 2 ^ k ≤ n) (h2 : n < 2 ^ (k + 1)) : bl n = k + 1 := by
 have h0 : n ≠ 0 := by have := Nat.two_pow_pos k; omega
 have a1 := K0b n
 have a2 := F0a h0
 have a3 := Q0d h0
 have b1 : k < bl n := (Nat.pow_lt_pow_iff_right (a := 2) (by omega)).1 (Nat.lt_of_le_of_lt h1 a1)
 have b2 : bl n - 1 < k + 1 := (Nat.pow_lt_pow_iff_right (a := 2) (by omega)).1 (Nat.lt_of_le_of_lt a2 h2)
 omega
theorem g0n {n m : Nat} (k : Nat) (h0 : n ≠ 0) (h1 : n * 2 ^ k ≤ m) (h2 : m < (n + 1) * 2 ^ k) : bl m = bl n + k := by
 have a1 := K0b n
 have a2 := F0a h0
 have a3 := Q0d h0
 have e : bl n + k = (bl n - 1 + k) + 1 := by omega
 rw [e]
 refine i0w ?_ ?_
 · rw [Nat.pow_add]; exact Nat.le_trans (Nat.mul_le_mul_right _ a2) h1
 · rw [show bl n - 1 + k + 1 = bl n + k by omega, Nat.pow_add]; exact Nat.lt_of_lt_of_le h2 (Nat.mul_le_mul_right _ a1)
theorem i0n {m : Nat} (k : Nat) (h : 2 ^ k ≤ m) : bl m = bl (m / 2 ^ k) + k := by
 have hp := Nat.two_pow_pos k
 have hd : 0 < m / 2 ^ k := Nat.div_pos h hp
 refine g0n k (by omega) (Nat.div_mul_le_self _ _) ?_
 have := Nat.lt_succ_iff.2 (Nat.le_refl (m / 2 ^ k))
 exact (Nat.div_lt_iff_lt_mul hp).1 this
theorem td32 (n : Nat) : Int.tdiv (n : Int) 32 = ((n / 32 : Nat) : Int) := (Int.ofNat_tdiv n 32).symm
theorem tm32 (n : Nat) : Int.tmod (n : Int) 32 = ((n % 32 : Nat) : Int) := (Int.ofNat_tmod n 32).symm
theorem K0t {r h lo : Nat} (hh : h < 2 ^ r) : (h ||| lo * 2 ^ r) = h + lo * 2 ^ r := by
 have := Nat.two_pow_add_eq_or_of_lt hh lo
 rw [Nat.or_comm, show lo * 2 ^ r = 2 ^ r * lo by rw [Nat.mul_comm], ← this]; omega
theorem q0v {a b : Nat} (ha : a < 4294967296) (hb : b < 4294967296) :
 BitVec.toNat ((BitVec.ofInt IntKind.u32.bits ((a : Nat) : Int)) ||| (BitVec.ofInt IntKind.u32.bits ((b : Nat) : Int))) = a ||| b := by
 have e : IntKind.u32.bits = 32 := rfl
 rw [e, BitVec.ofInt_natCast, BitVec.ofInt_natCast, BitVec.toNat_or, BitVec.toNat_ofNat, BitVec.toNat_ofNat, Nat.mod_eq_of_lt (by omega), Nat.mod_eq_of_lt (by omega)]

structure j08 (P vN v1 v2 u2 u1 u0 W : Nat) : Prop where
 h1 : v1 < 4294967296
 h2 : v2 < 4294967296
 pos : 0 < v1
 k2 : u2 ≤ v1
 k1 : u1 < 4294967296
 k0 : u0 < 4294967296
 vlo : (v1 * 4294967296 + v2) * P ≤ vN
 vhi : vN ≤ (v1 * 4294967296 + v2 + 1) * P
 wlo : ((u2 * 4294967296 + u1) * 4294967296 + u0) * P ≤ W
 whi : W < ((u2 * 4294967296 + u1) * 4294967296 + u0 + 1) * P
 lt : W < 4294967296 * vN
theorem j08.big {P vN v1 v2 u2 u1 u0 W : Nat} (h : j08 P vN v1 v2 u2 u1 u0 W) {q : Nat} (hq : q * vN ≤ W) : q * (v1 * 4294967296 + v2) < (u2 * 4294967296 + u1) * 4294967296 + u0 + 1 := by
 rcases Nat.lt_or_ge (q * (v1 * 4294967296 + v2)) ((u2 * 4294967296 + u1) * 4294967296 + u0 + 1) with h1 | h1
 · exact h1
 · exfalso
   have h2 := Nat.mul_le_mul_right P h1
   have h3 := Nat.mul_le_mul_left q h.vlo
   rw [← Nat.mul_assoc] at h3
   have := h.whi
   omega
theorem j08.init {P vN v1 v2 u2 u1 u0 W : Nat} (h : j08 P vN v1 v2 u2 u1 u0 W) : W / vN ≤ (u2 * 4294967296 + u1) / v1 := by
 rw [Nat.le_div_iff_mul_le h.pos]
 have h1 := h.big (Nat.div_mul_le_self W vN)
 generalize W / vN = q at *
 have hu0 := h.k0
 have e : q * (v1 * 4294967296 + v2) = q * v1 * 4294967296 + q * v2 := by rw [Nat.mul_add, Nat.mul_assoc]
 rw [e] at h1
 omega
theorem j08.quo {P vN v1 v2 u2 u1 u0 W : Nat} (h : j08 P vN v1 v2 u2 u1 u0 W) : W / vN < 4294967296 := by
 have := h.lt
 rw [Nat.div_lt_iff_lt_mul]
 · exact this
 · rcases Nat.eq_zero_or_pos vN with h0 | h0
   · subst h0; omega
   · exact h0
theorem j08.dec {P vN v1 v2 u2 u1 u0 W g r : Nat} (h : j08 P vN v1 v2 u2 u1 u0 W) (hg : g * v1 + r = u2 * 4294967296 + u1) (hc : r * 4294967296 + u0 < g * v2) : W / vN < g := by
 have h1 := h.big (Nat.div_mul_le_self W vN)
 generalize W / vN = q at *
 rcases Nat.lt_or_ge q g with h2 | h2
 · exact h2
 · exfalso
   have h3 := Nat.mul_le_mul_right (v1 * 4294967296 + v2) h2
   have e : g * (v1 * 4294967296 + v2) = g * v1 * 4294967296 + g * v2 := by rw [Nat.mul_add, Nat.mul_assoc]
   omega
theorem j08.exit {P vN v1 v2 u2 u1 u0 W g r : Nat} (h : j08 P vN v1 v2 u2 u1 u0 W) (hg : g * v1 + r = u2 * 4294967296 + u1) (hB : g < 4294967296) (hc : g * v2 ≤ r * 4294967296 + u0) : (g - 1) * vN ≤ W := by
 have := h.pos
 exact K0s h.vhi h.wlo hg hc (by omega)
theorem j08.brk {P vN v1 v2 u2 u1 u0 W g r : Nat} (h : j08 P vN v1 v2 u2 u1 u0 W) (hg : g * v1 + r = u2 * 4294967296 + u1) (h0 : 0 < g) (hr : 4294967296 ≤ r + v1) : g - 1 < 4294967296 ∧ (g - 1 - 1) * vN ≤ W := by
 obtain ⟨g, rfl⟩ : ∃ k, g = k + 1 := ⟨g - 1, by omega⟩
 simp only [Nat.add_sub_cancel]
 have hg' : g * v1 + (r + v1) = u2 * 4294967296 + u1 := by rw [Nat.succ_mul] at hg; omega
 have hB : g < 4294967296 := by
  rcases Nat.lt_or_ge g 4294967296 with h1 | h1
  · exact h1
  · exfalso
    have h2 := Nat.mul_le_mul_right v1 h1
    have := h.k2
    have := h.k1
    omega
 refine ⟨hB, h.exit hg' hB ?_⟩
 have := Nat.mul_le_mul (Nat.le_of_lt hB) (Nat.le_of_lt h.h2)
 have h3 := Nat.mul_le_mul_right 4294967296 hr
 omega
theorem j0k (l : List Nat) (j k : Nat) : seg l j (k + 1 + 1 + 1) = seg l j k + ((l.getD (j + k + 2) 0 * 4294967296 + l.getD (j + k + 1) 0) * 4294967296 + l.getD (j + k) 0) * 4294967296 ^ k := by
 rw [Z00, Z00, Z00, Nat.pow_succ, Nat.pow_succ, Nat.pow_succ, show j + (k + 1 + 1) = j + k + 2 by omega, show j + (k + 1) = j + k + 1 by omega]
 grind
theorem q0u (l : List Nat) (j k : Nat) : seg l j (k + 1 + 1) = seg l j k + (l.getD (j + k + 1) 0 * 4294967296 + l.getD (j + k) 0) * 4294967296 ^ k := by
 rw [Z00, Z00, Nat.pow_succ, show j + (k + 1) = j + k + 1 by omega]
 grind
theorem p0m (n : Nat) {k : Nat} (h : wn n ≤ k) : seg (dig n) 0 k = n := by rw [q04 h, n00]
theorem N0h {n vN j : Nat} {u : List Nat} (hu : WB u) (hn : 2 ≤ n) (hv : wn vN = n) (hc : seg u (j + 1) n < vN) :
 j08 (4294967296 ^ (n - 2)) vN ((dig vN).getD (n - 1) 0) ((dig vN).getD (n - 2) 0) (u.getD (j + n) 0) (u.getD (j + n - 1) 0) (u.getD (j + n - 2) 0) (seg u j (n + 1)) := by
 obtain ⟨k, rfl⟩ : ∃ k, n = k + 2 := ⟨n - 2, by omega⟩
 have e1 : k + 2 - 1 = k + 1 := rfl
 have e2 : k + 2 - 2 = k := rfl
 have e3 : j + (k + 2) = j + k + 2 := rfl
 have e4 : j + k + 2 - 1 = j + k + 1 := rfl
 have e5 : j + k + 2 - 2 = j + k := rfl
 rw [e1, e2, e3, e4, e5]
 have hw := q02 vN
 have hvs := p0m vN (Nat.le_of_eq hv)
 rw [q0u, Nat.zero_add] at hvs
 have b1 := Q07 hw 0 k
 have b2 := Q07 hu j k
 have hP : 0 < 4294967296 ^ k := Nat.pow_pos (by omega)
 have top := Z00 u (j + 1) (k + 1)
 rw [show j + 1 + (k + 1) = j + k + 2 by omega] at top
 have hw1 : seg u j (k + 2 + 1) = u.getD j 0 + 4294967296 * seg u (j + 1) (k + 2) := by
  rw [show k + 2 + 1 = 1 + (k + 2) by omega, L04, Z00, P02]; simp
 have b3 := hu.getD j
 refine ⟨hw.getD _, hw.getD _, ?_, ?_, hu.getD _, hu.getD _, by omega, by rw [Nat.succ_mul]; omega, ?_, ?_, by rw [hw1]; omega⟩
 · rcases Nat.eq_zero_or_pos ((dig vN).getD (k + 1) 0) with h0 | h0
   · exfalso
     have hl : wn vN = k + 2 := hv
     have h1 : vN ≠ 0 := by rintro rfl; rw [J04] at hl; omega
     have h2 : (dig vN).getLast? = some ((dig vN).getD (k + 1) 0) := by
      rw [List.getLast?_eq_getElem?]
      simp only [wn] at hl
      simp only [List.getD]
      rw [hl, show k + 2 - 1 = k + 1 by omega, List.getElem?_eq_getElem (by omega)]; rfl
     exact f0n h2 h0
   · exact h0
 · -- the top word
   rcases Nat.lt_or_ge ((dig vN).getD (k + 1) 0) (u.getD (j + k + 2) 0) with h0 | h0
   · exfalso
     have h1 := Nat.mul_le_mul_right (4294967296 ^ (k + 1)) (Nat.succ_le_of_lt h0)
     rw [Nat.succ_mul, Nat.pow_succ] at h1
     rw [show k + 1 + 1 = k + 2 by omega, Nat.pow_succ] at top
     have h2 := hw.getD k
     have h3 := Nat.mul_le_mul_right (4294967296 ^ k) (Nat.succ_le_of_lt h2)
     rw [Nat.succ_mul] at h3
     have e6 : ∀ z, z * (4294967296 ^ k * 4294967296) = z * 4294967296 * 4294967296 ^ k := by intro z; grind
     simp only [e6] at h1 top
     rw [Nat.add_mul] at hvs
     omega
   · exact h0
 · rw [show k + 2 + 1 = k + 1 + 1 + 1 by omega, j0k]; omega
 · rw [show k + 2 + 1 = k + 1 + 1 + 1 by omega, j0k, Nat.succ_mul]; omega
theorem L0s {α : Type} (l : List α) (off : Nat) (vs : List α) (h : off + vs.length ≤ l.length) : setL l off vs = l.take off ++ vs ++ l.drop (off + vs.length) := by
 induction vs generalizing l off with
 | nil => simp [setL]
 | cons v vs ih =>
   simp only [List.length_cons] at h
   rw [setL, ih _ _ (by simp; omega)]
   apply List.ext_getElem?
   intro i
   simp only [List.getElem?_append, List.getElem?_take, List.getElem?_drop, List.getElem?_set, List.length_append, List.length_take, List.length_set, List.length_cons, List.getElem?_cons]
   have e1 : min (off + 1) l.length = off + 1 := by omega
   have e2 : min off l.length = off := by omega
   rw [e1, e2]
   by_cases c1 : i < off
   · have c2 : ¬ off = i := by omega
     simp [c1, c2, show i < off + 1 + vs.length by omega, show i < off + 1 by omega, show i < off + (vs.length + 1) by omega]
   · by_cases c2 : i = off
     · subst c2
       simp [show i < i + 1 + vs.length by omega, show i < l.length by omega]
     · have c3 : ¬ off = i := fun x => c2 x.symm
       have c4 : ¬ i < off + 1 := by omega
       have c5 : i - off ≠ 0 := by omega
       simp only [c1, c4, if_false, c3]
       by_cases c6 : i < off + 1 + vs.length
       · simp [c6, show i < off + (vs.length + 1) by omega, c5, show i - off - 1 = i - (off + 1) by omega]
       · simp only [c6, show ¬ i < off + (vs.length + 1) by omega, if_false]
         rw [if_neg (by omega)]
         congr 1; omega
theorem b0r (n : Nat) (d : List Nat) (h : d.length ≤ n) : setL (wv (List.replicate n 0)) 0 (wv d) = wv (d ++ List.replicate (n - d.length) 0) := by
 rw [L0s _ _ _ (by simp [wv]; omega)]
 simp [wv]
theorem j0n (d : List Nat) (n : Nat) : wval (d ++ List.replicate n 0) = wval d := by rw [T09, A0p]; simp

structure Cq where
 re : Rat
 im : Rat
theorem Cq.ext' {x y : Cq} (h1 : x.re = y.re) (h2 : x.im = y.im) : x = y := by cases x; cases y; cases h1; cases h2; rfl
instance : DecidableEq Cq := fun x y => if h1 : x.re = y.re then if h2 : x.im = y.im then .isTrue (Cq.ext' h1 h2) else .isFalse (fun e => h2 (by rw [e])) else .isFalse (fun e => h1 (by rw [e]))
instance : Add Cq := ⟨fun x y => ⟨x.re + y.re, x.im + y.im⟩⟩
instance : Neg Cq := ⟨fun x => ⟨-x.re, -x.im⟩⟩
instance : Sub Cq := ⟨fun x y => ⟨x.re - y.re, x.im - y.im⟩⟩
instance : Mul Cq := ⟨fun x y => ⟨x.re * y.re - x.im * y.im, x.re * y.im + x.im * y.re⟩⟩
def Cq.conj (x : Cq) : Cq := ⟨x.re, -x.im⟩
def Cq.norm (x : Cq) : Rat := x.re * x.re + x.im * x.im
def Cq.zero : Cq := ⟨0, 0⟩
def Cq.one : Cq := ⟨1, 0⟩
def Cq.I : Cq := ⟨0, 1⟩
def Cq.div (x y : Cq) : Cq := ⟨(x.re * y.re + x.im * y.im) / y.norm, (x.im * y.re - x.re * y.im) / y.norm⟩
theorem Q04 (x y : Cq) : (x + y).re = x.re + y.re := rfl
theorem S04 (x y : Cq) : (x + y).im = x.im + y.im := rfl
theorem y0e (x y : Cq) : (x - y).re = x.re - y.re := rfl
theorem z0e (x y : Cq) : (x - y).im = x.im - y.im := rfl
theorem t0b (x : Cq) : (-x).re = -x.re := rfl
theorem u0b (x : Cq) : (-x).im = -x.im := rfl
theorem g03 (x y : Cq) : (x * y).re = x.re * y.re - x.im * y.im := rfl
theorem E03 (x y : Cq) : (x * y).im = x.re * y.im + x.im * y.re := rfl
theorem Y0p (x : Cq) : x.conj.im = -x.im := rfl
structure Rep (z : Cq) (A B : Int) (D : Nat) : Prop where
 pos : D ≠ 0
 re : z.re = (A : Rat) / (D : Rat)
 im : z.im = (B : Rat) / (D : Rat)
structure L0b (z : Cq) (A B : Int) (D : Nat) : Prop where
 rep : Rep z A B D
 cop : Nat.gcd (Nat.gcd A.natAbs B.natAbs) D = 1
theorem Y00 {D : Nat} (h : D ≠ 0) : (D : Rat) ≠ 0 := by simpa using h
theorem p01 {A A' : Int} {D D' : Nat} (h : D ≠ 0) (h' : D' ≠ 0) : (A : Rat) / (D : Rat) = (A' : Rat) / (D' : Rat) ↔ A * D' = A' * D := by
 rw [← Rat.mkRat_eq_div, ← Rat.mkRat_eq_div, Rat.mkRat_eq_iff h h']
theorem L0b.dvd {z : Cq} {A B A' B' : Int} {D D' : Nat} (h : L0b z A B D) (h' : Rep z A' B' D') : D ∣ D' := by
 have e1 := (p01 h.rep.pos h'.pos).1 (h.rep.re.symm.trans h'.re)
 have e2 := (p01 h.rep.pos h'.pos).1 (h.rep.im.symm.trans h'.im)
 have f1 : D ∣ A.natAbs * D' := by
  have := congrArg Int.natAbs e1
  rw [Int.natAbs_mul, Int.natAbs_mul, Int.natAbs_natCast, Int.natAbs_natCast] at this
  exact ⟨A'.natAbs, by rw [this, Nat.mul_comm]⟩
 have f2 : D ∣ B.natAbs * D' := by
  have := congrArg Int.natAbs e2
  rw [Int.natAbs_mul, Int.natAbs_mul, Int.natAbs_natCast, Int.natAbs_natCast] at this
  exact ⟨B'.natAbs, by rw [this, Nat.mul_comm]⟩
 have f3 := Nat.dvd_gcd f1 f2
 rw [Nat.gcd_mul_right] at f3
 have hc : Nat.Coprime D (Nat.gcd A.natAbs B.natAbs) := by rw [Nat.Coprime, Nat.gcd_comm]; exact h.cop
 exact hc.dvd_of_dvd_mul_left f3
theorem L0b.inj {z : Cq} {A B A' B' : Int} {D D' : Nat} (h : L0b z A B D) (h' : L0b z A' B' D') : A = A' ∧ B = B' ∧ D = D' := by
 have hD : D = D' := Nat.dvd_antisymm (h.dvd h'.rep) (h'.dvd h.rep)
 subst hD
 have e1 := (p01 h.rep.pos h'.rep.pos).1 (h.rep.re.symm.trans h'.rep.re)
 have e2 := (p01 h.rep.pos h'.rep.pos).1 (h.rep.im.symm.trans h'.rep.im)
 have hD : (D : Int) ≠ 0 := by have := h.rep.pos; omega
 exact ⟨Int.eq_of_mul_eq_mul_right hD e1, Int.eq_of_mul_eq_mul_right hD e2, rfl⟩
def gcd3 (A B : Int) (D : Nat) : Nat := Nat.gcd (Nat.gcd A.natAbs B.natAbs) D
theorem O0h (A B : Int) {D : Nat} (h : D ≠ 0) : 0 < gcd3 A B D := Nat.gcd_pos_of_pos_right _ (by omega)
theorem G0a (A B : Int) (D : Nat) : gcd3 A B D ∣ A.natAbs := Nat.dvd_trans (Nat.gcd_dvd_left _ _) (Nat.gcd_dvd_left _ _)
theorem H0a (A B : Int) (D : Nat) : gcd3 A B D ∣ B.natAbs := Nat.dvd_trans (Nat.gcd_dvd_left _ _) (Nat.gcd_dvd_right _ _)
theorem S0d (A B : Int) (D : Nat) : gcd3 A B D ∣ D := Nat.gcd_dvd_right _ _
theorem x04 {A : Int} {g : Nat} (h : g ∣ A.natAbs) : (A / (g : Int)).natAbs = A.natAbs / g := by
 obtain ⟨k, hk⟩ := h
 rcases Nat.eq_zero_or_pos g with h0 | h0
 · subst h0; simp
 · have hg : (g : Int) ≠ 0 := by omega
   rcases Int.natAbs_eq A with e | e
   · rw [hk] at e; rw [e, Int.natCast_mul, Int.mul_ediv_cancel_left _ hg, Int.natAbs_natCast, Int.natAbs_mul, Int.natAbs_natCast, Int.natAbs_natCast, Nat.mul_div_cancel_left _ h0]
   · rw [hk] at e; rw [e, Int.natCast_mul, ← Int.mul_neg, Int.mul_ediv_cancel_left _ hg, Int.natAbs_neg, Int.natAbs_natCast, Int.natAbs_mul, Int.natAbs_natCast, Int.natAbs_neg, Int.natAbs_natCast, Nat.mul_div_cancel_left _ h0]
theorem j0g {A : Int} {g : Nat} (h : g ∣ A.natAbs) : A / (g : Int) * g = A := Int.ediv_mul_cancel (Int.ofNat_dvd_left.2 h)
theorem A07 {A : Int} {g : Nat} (h : g ∣ A.natAbs) (hg : 0 < g) : decide (A / (g : Int) < 0) = decide (A < 0) := by
 have e := j0g h
 have hg' : (0 : Int) < g := by omega
 have : A / (g : Int) < 0 ↔ A < 0 := by
  constructor
  · intro h1
    have := Int.mul_neg_of_neg_of_pos h1 hg'
    omega
  · intro h1
    rcases Int.lt_or_le (A / (g : Int)) 0 with h2 | h2
    · exact h2
    · have := Int.mul_nonneg h2 (Int.le_of_lt hg'); omega
 simp [this]
theorem Rep.canon {z : Cq} {A B : Int} {D : Nat} (h : Rep z A B D) : L0b z (A / (gcd3 A B D : Nat)) (B / (gcd3 A B D : Nat)) (D / gcd3 A B D) := by
 have hg := O0h A B h.pos
 have d1 := G0a A B D
 have d2 := H0a A B D
 have d3 := S0d A B D
 have hne : D / gcd3 A B D ≠ 0 := by
  have := Nat.div_pos (Nat.le_of_dvd (by have := h.pos; omega) d3) hg
  omega
 have key : ∀ {C : Int}, gcd3 A B D ∣ C.natAbs → (C : Rat) / (D : Rat) = ((C / (gcd3 A B D : Nat) : Int) : Rat) / ((D / gcd3 A B D : Nat) : Rat) := by
  intro C hC
  rw [p01 h.pos hne]
  have e1 := j0g hC
  have e2 := Nat.div_mul_cancel d3
  have e3 : (D : Int) = ((D / gcd3 A B D : Nat) : Int) * (gcd3 A B D : Nat) := by rw [← Int.natCast_mul, e2]
  generalize (C / (gcd3 A B D : Nat) : Int) = q at *
  generalize D / gcd3 A B D = m at *
  generalize gcd3 A B D = g at *
  rw [← e1, e3]
  grind
 refine ⟨⟨hne, h.re.trans (key d1), h.im.trans (key d2)⟩, ?_⟩
 rw [x04 d1, x04 d2, Nat.gcd_div d1 d2, Nat.gcd_div (Nat.dvd_gcd d1 d2) d3]
 exact Nat.div_self hg
theorem Cq.rep (z : Cq) : Rep z (z.re.num * z.im.den) (z.im.num * z.re.den) (z.re.den * z.im.den) := by
 have h1 := z.re.den_nz
 have h2 := z.im.den_nz
 have h3 := Nat.mul_ne_zero h1 h2
 refine ⟨h3, ?_, ?_⟩
 · conv => lhs; rw [← Rat.mkRat_self z.re, Rat.mkRat_eq_div]
   rw [p01 h1 h3]
   rw [Int.natCast_mul]; grind
 · conv => lhs; rw [← Rat.mkRat_self z.im, Rat.mkRat_eq_div]
   rw [p01 h2 h3]
   rw [Int.natCast_mul]; grind
def Cq.g (z : Cq) : Nat := gcd3 (z.re.num * z.im.den) (z.im.num * z.re.den) (z.re.den * z.im.den)
def Cq.A (z : Cq) : Int := z.re.num * z.im.den / (z.g : Int)
def Cq.B (z : Cq) : Int := z.im.num * z.re.den / (z.g : Int)
def Cq.D (z : Cq) : Nat := z.re.den * z.im.den / z.g
theorem Cq.canon (z : Cq) : L0b z z.A z.B z.D := z.rep.canon
theorem Cq.D_pos (z : Cq) : z.D ≠ 0 := z.canon.rep.pos
theorem L0b.eqs {z : Cq} {A B : Int} {D : Nat} (h : L0b z A B D) : z.A = A ∧ z.B = B ∧ z.D = D := z.canon.inj h
theorem Rep.eqs {z : Cq} {A B : Int} {D : Nat} (h : Rep z A B D) : z.A = A / (gcd3 A B D : Nat) ∧ z.B = B / (gcd3 A B D : Nat) ∧ z.D = D / gcd3 A B D := h.canon.eqs
theorem B0t {z w : Cq} (h1 : z.A = w.A) (h2 : z.B = w.B) (h3 : z.D = w.D) : z = w := by
 have a := z.canon.rep
 have b := w.canon.rep
 exact Cq.ext' (by rw [a.re, b.re, h1, h3]) (by rw [a.im, b.im, h2, h3])
def Cq.sz (z : Cq) : Nat := max (bl z.A.natAbs) (max (bl z.B.natAbs) (bl z.D))
theorem W09 {a b : Nat} (h : a ≤ b) : bl a ≤ bl b := by
 rcases Nat.eq_zero_or_pos a with h0 | h0
 · subst h0; simp [Y04]
 · have h1 := F0a (by omega : a ≠ 0)
   have h2 := K0b b
   have := (Nat.pow_lt_pow_iff_right (a := 2) (n := bl a - 1) (m := bl b) (by omega)).1 (by omega)
   omega
theorem y03 {a k : Nat} (h : a < 2 ^ k) : bl a ≤ k := by
 rcases Nat.eq_zero_or_pos a with h0 | h0
 · subst h0; simp [Y04]
 · have h1 := F0a (by omega : a ≠ 0)
   have := (Nat.pow_lt_pow_iff_right (a := 2) (n := bl a - 1) (m := k) (by omega)).1 (by omega)
   omega
theorem I0a {a k : Nat} (h : bl a ≤ k) : a < 2 ^ k := Nat.lt_of_lt_of_le (K0b a) (Nat.pow_le_pow_right (by omega) h)
theorem k08 (a b : Nat) : bl (a * b) ≤ bl a + bl b := by
 refine y03 ?_
 rw [Nat.pow_add]
 exact Nat.mul_lt_mul'' (K0b a) (K0b b)
theorem s0v {a b k : Nat} (h1 : bl a ≤ k) (h2 : bl b ≤ k) : bl (a + b) ≤ k + 1 := by
 refine y03 ?_
 have := I0a h1
 have := I0a h2
 rw [Nat.pow_succ]; omega
theorem l08 {a b : Int} {k : Nat} (h1 : bl a.natAbs ≤ k) (h2 : bl b.natAbs ≤ k) : bl (a + b).natAbs ≤ k + 1 :=
 Nat.le_trans (W09 (Int.natAbs_add_le a b)) (s0v h1 h2)
theorem s0u {a b : Int} {k : Nat} (h1 : bl a.natAbs ≤ k) (h2 : bl b.natAbs ≤ k) : bl (a - b).natAbs ≤ k + 1 := by
 rw [Int.sub_eq_add_neg]
 exact l08 h1 (by rw [Int.natAbs_neg]; exact h2)
theorem P03 (a b : Int) : bl (a * b).natAbs ≤ bl a.natAbs + bl b.natAbs := by rw [Int.natAbs_mul]; exact k08 _ _
theorem s04 {a k : Nat} (h : bl a ≤ 32 * k) : wn a ≤ k := Z0q (I0a h)
theorem Rep.sz {z : Cq} {A B : Int} {D k : Nat} (h : Rep z A B D) (hA : bl A.natAbs ≤ k) (hB : bl B.natAbs ≤ k) (hD : bl D ≤ k) : z.sz ≤ k := by
 obtain ⟨e1, e2, e3⟩ := h.eqs
 unfold Cq.sz
 rw [e1, e2, e3, x04 (G0a A B D), x04 (H0a A B D)]
 have a := W09 (Nat.div_le_self A.natAbs (gcd3 A B D))
 have b := W09 (Nat.div_le_self B.natAbs (gcd3 A B D))
 have c := W09 (Nat.div_le_self D (gcd3 A B D))
 omega
theorem Cq.szA (z : Cq) : bl z.A.natAbs ≤ z.sz := Nat.le_max_left _ _
theorem Cq.szB (z : Cq) : bl z.B.natAbs ≤ z.sz := by unfold Cq.sz; omega
theorem Cq.szD (z : Cq) : bl z.D ≤ z.sz := by unfold Cq.sz; omega
theorem Rep.add {z w : Cq} {A B A' B' : Int} {D D' : Nat} (h : Rep z A B D) (h' : Rep w A' B' D') : Rep (z + w) (A * D' + A' * D) (B * D' + B' * D) (D * D') := by
 have n1 := Y00 h.pos
 have n2 := Y00 h'.pos
 refine ⟨Nat.mul_ne_zero h.pos h'.pos, ?_, ?_⟩
 · rw [Q04, h.re, h'.re]; push_cast; grind
 · rw [S04, h.im, h'.im]; push_cast; grind
theorem Rep.neg {z : Cq} {A B : Int} {D : Nat} (h : Rep z A B D) : Rep (-z) (-A) (-B) D := by
 refine ⟨h.pos, ?_, ?_⟩
 · rw [t0b, h.re]; push_cast; grind
 · rw [u0b, h.im]; push_cast; grind
theorem Rep.conj {z : Cq} {A B : Int} {D : Nat} (h : Rep z A B D) : Rep z.conj A (-B) D := by
 refine ⟨h.pos, h.re, ?_⟩
 rw [Y0p, h.im]; push_cast; grind
theorem Rep.mul {z w : Cq} {A B A' B' : Int} {D D' : Nat} (h : Rep z A B D) (h' : Rep w A' B' D') : Rep (z * w) (A * A' - B * B') (A * B' + B * A') (D * D') := by
 have n1 := Y00 h.pos
 have n2 := Y00 h'.pos
 refine ⟨Nat.mul_ne_zero h.pos h'.pos, ?_, ?_⟩
 · rw [g03, h.re, h'.re, h.im, h'.im]; push_cast; grind
 · rw [E03, h.re, h'.re, h.im, h'.im]; push_cast; grind

def W00 (V : View) (x : WhV) (n : Int) : Prop := x.neg = decide (n < 0) ∧ e00 V x.mag n.natAbs
theorem W00.le {V V' : View} {x : WhV} {n : Int} (hle : V.le V') (h : W00 V x n) : W00 V' x n := ⟨h.1, h.2.le hle⟩
theorem W00.zero (V : View) : W00 V (WhV.mk false (Sl.mk none 0 0)) 0 := ⟨by simp, e00.zero V⟩
theorem W00.val {V : View} {x : WhV} {n : Int} (h : W00 V x n) : n = if x.neg = true then -(n.natAbs : Int) else (n.natAbs : Int) := by
 rw [h.1]; simp only [decide_eq_true_eq]; split <;> omega
theorem W00.inj {V : View} {x : WhV} {n m : Int} (h : W00 V x n) (h' : W00 V x m) : n = m := by
 rw [h.val, h'.val, e00.inj h.2 h'.2]
structure G00 (V : View) (x : NumV) (z : Cq) : Prop where
 re : W00 V x.re z.A
 im : W00 V x.im z.B
 under : e00 V x.under (if z.D = 1 then 0 else z.D)
structure QAt (V : View) (x : NumV) (z : Cq) : Prop where
 re : W00 V x.re z.A
 im : W00 V x.im z.B
 under : e00 V x.under z.D
theorem G00.le {V V' : View} {x : NumV} {z : Cq} (hle : V.le V') (h : G00 V x z) : G00 V' x z := ⟨h.re.le hle, h.im.le hle, h.under.le hle⟩
theorem QAt.le {V V' : View} {x : NumV} {z : Cq} (hle : V.le V') (h : QAt V x z) : QAt V' x z := ⟨h.re.le hle, h.im.le hle, h.under.le hle⟩
theorem G00.inj {V : View} {x : NumV} {z w : Cq} (h : G00 V x z) (h' : G00 V x w) : z = w := by
 refine B0t (h.re.inj h'.re) (h.im.inj h'.im) ?_
 have := e00.inj h.under h'.under
 have := z.D_pos
 have := w.D_pos
 split at * <;> split at * <;> omega
theorem e00.len_zero {V : View} {s : Sl} {n : Nat} (h : e00 V s n) : s.len = 0 ↔ n = 0 := by
 rw [← F02 (n := n), wn, ← h.len]
theorem Rep.ofInt (n : Int) : Rep ⟨(n : Rat), 0⟩ n 0 1 := by
 refine ⟨by omega, ?_, ?_⟩
 · rw [Rat.div_def]; simp; grind
 · rw [Rat.div_def]; simp
theorem G05 (n : Int) : (Cq.mk (n : Rat) 0).A = n ∧ (Cq.mk (n : Rat) 0).B = 0 ∧ (Cq.mk (n : Rat) 0).D = 1 :=
 L0b.eqs ⟨Rep.ofInt n, by simp⟩
theorem A0e : Cq.zero.A = 0 ∧ Cq.zero.B = 0 ∧ Cq.zero.D = 1 := by
 have := G05 0
 simp only [Rat.intCast_zero] at this
 exact this
theorem G00.zero (V : View) : G00 V (NumV.mk (WhV.mk false (Sl.mk none 0 0)) (WhV.mk false (Sl.mk none 0 0)) (Sl.mk none 0 0)) Cq.zero := by
 obtain ⟨h1, h2, h3⟩ := A0e
 refine ⟨by rw [h1]; exact W00.zero V, by rw [h2]; exact W00.zero V, by rw [h3]; exact e00.zero V⟩
theorem k0n : bl 1 = 1 := by decide
theorem M03 : Cq.zero.sz ≤ 1 := by
 obtain ⟨h1, h2, h3⟩ := A0e
 unfold Cq.sz; rw [h1, h2, h3]; simp [Y04, k0n]
theorem j04 (z w : Cq) : (z + w).sz ≤ z.sz + w.sz + 1 := by
 have a1 := z.szA; have a2 := z.szB; have a3 := z.szD
 have b1 := w.szA; have b2 := w.szB; have b3 := w.szD
 refine (z.canon.rep.add w.canon.rep).sz ?_ ?_ ?_
 · refine l08 (Nat.le_trans (P03 _ _) ?_) (Nat.le_trans (P03 _ _) ?_) <;> simp only [Int.natAbs_natCast] <;> omega
 · refine l08 (Nat.le_trans (P03 _ _) ?_) (Nat.le_trans (P03 _ _) ?_) <;> simp only [Int.natAbs_natCast] <;> omega
 · exact Nat.le_trans (k08 _ _) (by omega)
theorem m02 (z w : Cq) : (z * w).sz ≤ z.sz + w.sz + 1 := by
 have a1 := z.szA; have a2 := z.szB; have a3 := z.szD
 have b1 := w.szA; have b2 := w.szB; have b3 := w.szD
 refine (z.canon.rep.mul w.canon.rep).sz ?_ ?_ ?_
 · exact s0u (Nat.le_trans (P03 _ _) (by omega)) (Nat.le_trans (P03 _ _) (by omega))
 · exact l08 (Nat.le_trans (P03 _ _) (by omega)) (Nat.le_trans (P03 _ _) (by omega))
 · exact Nat.le_trans (k08 _ _) (by omega)
theorem Cq.neg_eqs (z : Cq) : (-z).A = -z.A ∧ (-z).B = -z.B ∧ (-z).D = z.D :=
 L0b.eqs ⟨z.canon.rep.neg, by rw [Int.natAbs_neg, Int.natAbs_neg]; exact z.canon.cop⟩
theorem Cq.conj_eqs (z : Cq) : z.conj.A = z.A ∧ z.conj.B = -z.B ∧ z.conj.D = z.D :=
 L0b.eqs ⟨z.canon.rep.conj, by rw [Int.natAbs_neg]; exact z.canon.cop⟩
theorem L08 (z : Cq) : (-z).sz = z.sz := by
 obtain ⟨h1, h2, h3⟩ := z.neg_eqs
 unfold Cq.sz; rw [h1, h2, h3, Int.natAbs_neg, Int.natAbs_neg]
theorem Z0p (z : Cq) : z.conj.sz = z.sz := by
 obtain ⟨h1, h2, h3⟩ := z.conj_eqs
 unfold Cq.sz; rw [h1, h2, h3, Int.natAbs_neg]
theorem Cq.sub_eq (z w : Cq) : z - w = z + -w := Cq.ext' (by rw [y0e, Q04, t0b]; grind) (by rw [z0e, S04, u0b]; grind)
theorem B0e (z w : Cq) : (z - w).sz ≤ z.sz + w.sz + 1 := by
 rw [Cq.sub_eq, ← L08 w]; exact j04 z (-w)
theorem Cq.B_zero {z : Cq} : z.B = 0 ↔ z.im = 0 := by
 have h := z.canon.rep
 rw [h.im]
 constructor
 · intro e; rw [e]; simp [Rat.div_def]
 · intro e
   have hD := Y00 h.pos
   have : ((z.B : Int) : Rat) = 0 := by
    have h2 := congrArg (· * (z.D : Rat)) e
    simp only [Rat.div_mul_cancel hD, Rat.zero_mul] at h2
    exact h2
   simpa using this
theorem Cq.A_zero {z : Cq} : z.A = 0 ↔ z.re = 0 := by
 have h := z.canon.rep
 rw [h.re]
 constructor
 · intro e; rw [e]; simp [Rat.div_def]
 · intro e
   have hD := Y00 h.pos
   have : ((z.A : Int) : Rat) = 0 := by
    have h2 := congrArg (· * (z.D : Rat)) e
    simp only [Rat.div_mul_cancel hD, Rat.zero_mul] at h2
    exact h2
   simpa using this
theorem n0f {A A' : Int} {D D' : Nat} (h : D ≠ 0) (h' : D' ≠ 0) : (A : Rat) / (D : Rat) < (A' : Rat) / (D' : Rat) ↔ A * D' < A' * D := by
 have p : (0 : Rat) < (D : Rat) := Rat.natCast_pos.2 (by omega)
 have p' : (0 : Rat) < (D' : Rat) := Rat.natCast_pos.2 (by omega)
 rw [Rat.div_lt_iff p]
 have e : (A' : Rat) / (D' : Rat) * (D : Rat) = ((A' * D : Int) : Rat) / (D' : Rat) := by push_cast; rw [Rat.div_def, Rat.div_def]; grind
 rw [e, Rat.lt_div_iff p']
 have e2 : (A : Rat) * (D' : Rat) = ((A * D' : Int) : Rat) := by push_cast; rfl
 rw [e2]; exact Rat.intCast_lt_intCast
def cmpR (x y : Rat) : Int := if x < y then -1 else if x = y then 0 else 1
def cmpZ (x y : Int) : Int := if x < y then -1 else if x = y then 0 else 1
theorem P0h {x y : Int} (h : x < y) : cmpZ x y = -1 := by unfold cmpZ; rw [if_pos h]
theorem q0m {x y : Int} (h : x = y) : cmpZ x y = 0 := by unfold cmpZ; rw [if_neg (by omega), if_pos h]
theorem s0m {x y : Int} (h : y < x) : cmpZ x y = 1 := by unfold cmpZ; rw [if_neg (by omega), if_neg (by omega)]
theorem L0t {A A' : Int} {D D' : Nat} (h : D ≠ 0) (h' : D' ≠ 0) : cmpZ (A * D') (A' * D) = cmpR ((A : Rat) / (D : Rat)) ((A' : Rat) / (D' : Rat)) := by
 unfold cmpZ cmpR
 simp only [n0f h h', p01 h h']
def Cq.cmp (z w : Cq) : Int := if cmpR z.re w.re ≠ 0 then cmpR z.re w.re else cmpR z.im w.im

theorem k0k (a : Addr) (m n : Nat) : (a.add m).add n = a.add (m + n) := by
 by_cases h1 : m = 0 <;> by_cases h2 : n = 0 <;> simp [Addr.add, h1, h2, Nat.add_assoc]
theorem M0b {V : View} {b j : Nat} {cs : Array Value} (h : V b = some cs) : V.load ((some (Addr.mk b 0 none)).map (·.add j)) = cs[j]? := by
 by_cases h1 : j = 0 <;> simp [View.load, Addr.add, h1, h]
def H02 {α : Type} (sz : Nat) (P : View → List Value → α → Prop) (V : View) : List Value → List α → Prop
 | o, [] => o = []
 | o, z :: zs => ∃ x o', o = x ++ o' ∧ x.length = sz ∧ P V x z ∧ H02 sz P V o' zs
section
variable {α : Type} {sz : Nat} {P : View → List Value → α → Prop} {V V' : View}
theorem H02.length : ∀ {zs : List α} {o : List Value}, H02 sz P V o zs → o.length = zs.length * sz
 | [], _, h => by rw [show _ = [] from h]; simp
 | z :: zs, _, ⟨x, o', e, hx, _, h⟩ => by rw [e, List.length_append, hx, h.length, List.length_cons, Nat.add_mul]; omega
theorem H02.imp {P' : View → List Value → α → Prop} (hP : ∀ x z, P V x z → P' V' x z) : ∀ {zs : List α} {o : List Value}, H02 sz P V o zs → H02 sz P' V' o zs
 | [], _, h => h
 | _ :: _, _, ⟨x, o', e, hx, p, h⟩ => ⟨x, o', e, hx, hP _ _ p, h.imp hP⟩
theorem H02.append : ∀ {zs zs' : List α} {o o' : List Value}, H02 sz P V o zs → H02 sz P V o' zs' → H02 sz P V (o ++ o') (zs ++ zs')
 | [], _, _, _, h, h' => by rw [show _ = [] from h]; exact h'
 | _ :: _, _, _, _, ⟨x, o1, e, hx, p, h⟩, h' => ⟨x, o1 ++ _, by rw [e, List.append_assoc], hx, p, h.append h'⟩
theorem H02.one {x : List Value} {z : α} (hx : x.length = sz) (p : P V x z) : H02 sz P V x [z] := ⟨x, [], by simp, hx, p, rfl⟩
theorem H02.nil : H02 sz P V [] ([] : List α) := rfl
theorem H02.replicate {x : List Value} {z : α} (hx : x.length = sz) (p : P V x z) : ∀ n, H02 sz P V (List.replicate n x).flatten (List.replicate n z)
 | 0 => rfl
 | n + 1 => ⟨x, (List.replicate n x).flatten, by simp [List.replicate_succ], hx, p, H02.replicate hx p n⟩
theorem H02.get : ∀ {zs : List α} {o : List Value}, H02 sz P V o zs → ∀ {i : Nat} {z : α}, zs[i]? = some z →
 ∃ x, P V x z ∧ x.length = sz ∧ ∀ j v, x[j]? = some v → o[i * sz + j]? = some v
 | [], _, _, i, z, hi => by simp at hi
 | z0 :: zs, _, ⟨x, o', e, hx, p, h⟩, 0, z, hi => by
   simp at hi; subst hi
   refine ⟨x, p, hx, fun j v hj => ?_⟩
   have : j < x.length := by
    rcases Nat.lt_or_ge j x.length with h | h
    · exact h
    · rw [List.getElem?_eq_none h] at hj; simp at hj
   rw [e, Nat.zero_mul, Nat.zero_add, List.getElem?_append_left this]; exact hj
 | z0 :: zs, _, ⟨x, o', e, hx, p, h⟩, i + 1, z, hi => by
   simp at hi
   obtain ⟨y, q, hy, hg⟩ := h.get hi
   refine ⟨y, q, hy, fun j v hj => ?_⟩
   rw [e, List.getElem?_append_right (by rw [hx, Nat.add_mul]; omega)]
   have : (i + 1) * sz + j - x.length = i * sz + j := by rw [hx, Nat.add_mul]; omega
   rw [this]; exact hg j v hj
theorem l0n {β : Type} : ∀ (vs a : List β) (b c : List β), b.length = vs.length → setL (a ++ b ++ c) a.length vs = a ++ vs ++ c
 | [], a, b, c, h => by have : b = [] := by simpa using h
                        subst this; simp [setL]
 | v :: vs, a, [], c, h => by simp at h
 | v :: vs, a, b0 :: b, c, h => by
   have h' : b.length = vs.length := by simpa using h
   unfold setL
   have e : (a ++ b0 :: b ++ c).set a.length v = (a ++ [v]) ++ b ++ c := by
    rw [List.append_assoc, List.set_append_right _ _ (Nat.le_refl _)]; simp
   rw [e]
   have e2 : a.length + 1 = (a ++ [v]).length := by simp
   rw [e2, l0n vs (a ++ [v]) b c h']; simp
theorem H02.set : ∀ {zs : List α} {o : List Value}, H02 sz P V o zs → ∀ {i : Nat} {y : List Value} {z : α}, i < zs.length → y.length = sz → P V y z →
 ∀ pre : List Value, ∃ o', setL (pre ++ o) (pre.length + i * sz) y = pre ++ o' ∧ H02 sz P V o' (zs.set i z)
 | [], _, _, i, _, _, hi, _, _, _ => by simp at hi
 | z0 :: zs, _, ⟨x, o', e, hx, p, h⟩, 0, y, z, hi, hy, q, pre => by
   refine ⟨y ++ o', ?_, y, o', rfl, hy, q, h⟩
   rw [e, Nat.zero_mul, Nat.add_zero, ← List.append_assoc, l0n y pre x o' (by rw [hx, hy])]; simp
 | z0 :: zs, _, ⟨x, o', e, hx, p, h⟩, i + 1, y, z, hi, hy, q, pre => by
   obtain ⟨o2, e2, h2⟩ := h.set (i := i) (by simpa using hi) hy q (pre ++ x)
   refine ⟨x ++ o2, ?_, x, o2, rfl, hx, p, h2⟩
   have e3 : (pre ++ x).length + i * sz = pre.length + (i + 1) * sz := by rw [List.length_append, hx, Nat.add_mul]; omega
   rw [e, ← e3, ← List.append_assoc, e2, List.append_assoc]
theorem a0q {zs : List α} {o : List Value} (h : H02 sz P V o zs) {i : Nat} {y : List Value} {z : α} (hi : i < zs.length) (hy : y.length = sz) (q : P V y z) :
 H02 sz P V (setL o (0 + i * sz) y) (zs.set i z) := by
 obtain ⟨o', e, h'⟩ := h.set hi hy q []
 simp only [List.nil_append, List.length_nil] at e
 rw [e]; exact h'
structure E02 (sz : Nat) (P : View → List Value → α → Prop) (V : View) (s : Sl) (zs : List α) : Prop where
 len : s.len = zs.length
 cap : s.len ≤ s.cap
 some : zs ≠ [] → s.a.isSome = true
 cells : ∃ o, V.has s.a o ∧ H02 sz P V o zs
theorem E02.le (hP : ∀ x z, P V x z → P V' x z) (hle : V.le V') {s : Sl} {zs : List α} (h : E02 sz P V s zs) : E02 sz P V' s zs := by
 obtain ⟨o, h1, h2⟩ := h.cells
 exact ⟨h.len, h.cap, h.some, o, t04 hle h1, h2.imp hP⟩
theorem E02.nil : E02 sz P V (Sl.mk none 0 0) ([] : List α) := ⟨rfl, Nat.le_refl _, by simp, [], by intro j v h; simp at h, rfl⟩
theorem E02.get {s : Sl} {zs : List α} (h : E02 sz P V s zs) {t : Int} (h0 : 0 ≤ t) {z : α} (hz : zs[t.toNat]? = .some z) :
 ((0 : Int) ≤ t ∧ t < (s.len : Nat) ∧ Option.isSome s.a = true) ∧
 ∃ x, P V x z ∧ x.length = sz ∧ V.has (Option.map (fun q => Addr.add q (Int.toNat t * sz)) s.a) x ∧ Option.isSome (Option.map (fun q => Addr.add q (Int.toNat t * sz)) s.a) = true := by
 obtain ⟨o, h1, h2⟩ := h.cells
 obtain ⟨x, p, hx, hg⟩ := h2.get hz
 have hlt : t.toNat < zs.length := by
  rcases Nat.lt_or_ge t.toNat zs.length with h | h
  · exact h
  · rw [List.getElem?_eq_none h] at hz; simp at hz
 have hne : zs ≠ [] := by intro e; rw [e] at hlt; simp at hlt
 have hs := h.some hne
 have hl := h.len
 refine ⟨⟨h0, by omega, hs⟩, x, p, hx, fun j v hj => ?_, by simpa using hs⟩
 have := h1 _ v (hg j v hj)
 rw [Option.map_map]
 have e : ((fun x : Addr => x.add j) ∘ fun q : Addr => q.add (t.toNat * sz)) = fun q : Addr => q.add (t.toNat * sz + j) := by
  funext a; exact k0k a _ _
 rw [e]; exact this
theorem E02.of_block {b c : Nat} {o o' : List Value} {zs : List α} (hb : o ++ o' ≠ [] → V b = .some (o ++ o').toArray) (h : H02 sz P V o zs) {n : Nat} (hn : n = zs.length) (hc : n ≤ c) {a : Option Addr}
 (ha : c ≠ 0 → a = .some ⟨b, 0, none⟩) : E02 sz P V ⟨a, n, c⟩ zs := by
 refine ⟨hn, hc, fun hne => ?_, o, fun j v hj => ?_, h⟩
 · have : zs.length ≠ 0 := by simpa using hne
   rw [ha (by omega)]; rfl
 · have hj' : j < o.length := by
     rcases Nat.lt_or_ge j o.length with h | h
     · exact h
     · rw [List.getElem?_eq_none h] at hj; simp at hj
   have hl := h.length
   have hz : zs.length ≠ 0 := by intro e; rw [e] at hl; omega
   have hne : o ++ o' ≠ [] := by intro e; have := congrArg List.length e; simp at this; simp [this] at hj'
   show V.load (a.map (·.add j)) = .some v
   rw [ha (by omega)]
   rw [M0b (hb hne), List.getElem?_toArray, List.getElem?_append_left hj']; exact hj
theorem K05.split {n cap : Nat} {o l : List Value} (h : K05 sz n cap o l) : ∃ o', o = l ++ o' := ⟨o.drop (n * sz), by rw [← h.take, List.take_append_drop]⟩
theorem K05.nil : K05 sz 0 0 [] [] := ⟨Nat.le_refl _, by simp, by simp⟩
theorem K0i {b n cap : Nat} {o l : List Value} {zs : List α} (hl : K05 sz n cap o l) (hb : o ≠ [] → V b = .some o.toArray) (h : H02 sz P V l zs) (hn : n = zs.length) :
 E02 sz P V ⟨lstA b cap, n, cap⟩ zs := by
 obtain ⟨o', e⟩ := hl.split
 refine E02.of_block (o := l) (o' := o') (b := b) (fun hne => ?_) h hn hl.le (fun hc => by simp [lstA, hc])
 rw [← e]; exact hb (by rw [e]; exact hne)
theorem J09 {b n : Nat} {o : List Value} {zs : List α} (hb : V b = .some o.toArray) (h : H02 sz P V o zs) (hn : n = zs.length) : E02 sz P V ⟨.some ⟨b, 0, none⟩, n, n⟩ zs :=
 E02.of_block (o := o) (o' := []) (b := b) (fun _ => by simpa using hb) h hn (Nat.le_refl _) (fun _ => rfl)
end
def numC (V : View) (x : List Value) (z : Cq) : Prop := ∃ n : NumV, x = n.val.cells.toList ∧ G00 V n z
theorem numC.le {V V' : View} (hle : V.le V') (x : List Value) (z : Cq) (h : numC V x z) : numC V' x z := by
 obtain ⟨n, e, hn⟩ := h; exact ⟨n, e, hn.le hle⟩
def l0k (V : View) (s : Sl) (zs : List Cq) : Prop := E02 5 numC V s zs
def i07 (V : View) (o : List Value) (zs : List Cq) : Prop := H02 5 numC V o zs
theorem l0k.le {V V' : View} (hle : V.le V') {s : Sl} {zs : List Cq} (h : l0k V s zs) : l0k V' s zs := E02.le (numC.le hle) hle h
theorem i07.le {V V' : View} (hle : V.le V') {o : List Value} {zs : List Cq} (h : i07 V o zs) : i07 V' o zs := H02.imp (numC.le hle) h
def nth (zs : List Cq) (i : Nat) : Cq := zs.getD i Cq.zero
theorem c0r {zs : List Cq} {i : Nat} (h : i < zs.length) : zs[i]? = some (nth zs i) := by simp [nth, List.getD, h]
theorem l0k.get {V : View} {s : Sl} {zs : List Cq} (h : l0k V s zs) {t : Int} (h0 : 0 ≤ t) (h1 : t.toNat < zs.length) :
 ((0 : Int) ≤ t ∧ t < (s.len : Nat) ∧ Option.isSome s.a = true) ∧
 ∃ x : NumV, V.has (Option.map (fun q => Addr.add q (Int.toNat t * 5)) s.a) x.val.cells.toList ∧ Option.isSome (Option.map (fun q => Addr.add q (Int.toNat t * 5)) s.a) = true ∧ G00 V x (nth zs t.toNat) := by
 obtain ⟨hb, x, ⟨n, e, hn⟩, _, h1, h2⟩ := E02.get h h0 (c0r h1)
 exact ⟨hb, n, e ▸ h1, h2, hn⟩
theorem i07.zeros (V : View) (n : Nat) : i07 V ((List.replicate n [Value.bool false, Value.slice none 0 0, Value.bool false, Value.slice none 0 0, Value.slice none 0 0]).flatten) (List.replicate n Cq.zero) :=
 H02.replicate (x := [Value.bool false, Value.slice none 0 0, Value.bool false, Value.slice none 0 0, Value.slice none 0 0]) rfl ⟨_, rfl, G00.zero V⟩ n
theorem i07.set {V : View} {o : List Value} {zs : List Cq} (h : i07 V o zs) {i : Nat} (hi : i < zs.length) {r : NumV} {z : Cq} (hr : G00 V r z) :
 i07 V (setL o (0 + i * 5) [.bool r.re.neg, r.re.mag.v, .bool r.im.neg, r.im.mag.v, r.under.v]) (zs.set i z) := a0q h hi rfl ⟨r, rfl, hr⟩
theorem i07.push {V : View} {o : List Value} {zs : List Cq} (h : i07 V o zs) {r : NumV} {z : Cq} (hr : G00 V r z) :
 i07 V (o ++ [.bool r.re.neg, r.re.mag.v, .bool r.im.neg, r.im.mag.v, r.under.v]) (zs ++ [z]) := H02.append h (H02.one rfl ⟨r, rfl, hr⟩)
def s0w (h k : Nat) (a b : Nat → Cq) : List Cq := (List.range (2 * h)).map fun i => if i < h then (if i < k then a i else Cq.zero) else (if i - h < k then b (i - h) else Cq.zero)
theorem H02.cut {α : Type} {sz : Nat} {P : View → List Value → α → Prop} {V : View} : ∀ {zs : List α} {o : List Value}, H02 sz P V o zs → ∀ {i : Nat} {z : α}, zs[i]? = some z → P V ((o.drop (i * sz)).take sz) z
 | [], _, _, i, z, hi => by simp at hi
 | z0 :: zs, _, ⟨x, o', e, hx, p, h⟩, 0, z, hi => by
   simp at hi; subst hi
   rw [e, Nat.zero_mul, List.drop_zero, List.take_append_of_le_length (by omega), List.take_of_length_le (by omega)]; exact p
 | z0 :: zs, _, ⟨x, o', e, hx, p, h⟩, i + 1, z, hi => by
   simp at hi
   have := h.cut hi
   have e2 : (i + 1) * sz = x.length + i * sz := by rw [hx, Nat.add_mul]; omega
   rw [e, e2, ← List.drop_drop, List.drop_left]; exact this
theorem i07.cut {V : View} {o : List Value} {zs : List Cq} (h : i07 V o zs) {i : Nat} (hi : i < zs.length) :
 ∃ x : NumV, List.take 5 (List.drop (0 + i * 5) o) = x.val.cells.toList ∧ G00 V x (nth zs i) := by
 rw [Nat.zero_add]
 exact H02.cut h (c0r hi)

def infR : Nat := 9218868437227405312
def rm (r : Nat) : Nat := if r < 2 ^ 52 then r else (2 ^ 52 + r % 2 ^ 52) * 2 ^ (r / 2 ^ 52 - 1)
theorem m08 {m e : Nat} (h : (e = 0 ∨ 2 ^ 52 ≤ m) ∧ m ≤ 2 ^ 53) : rm (e * 2 ^ 52 + m) = m * 2 ^ e := by
 obtain ⟨h1, h2⟩ := h
 unfold rm
 by_cases c : m < 2 ^ 52
 · have : e = 0 := by omega
   subst this
   rw [if_pos (by omega)]; simp
 · rw [if_neg (by omega)]
   by_cases c2 : m < 2 ^ 53
   · have e1 : (e * 2 ^ 52 + m) / 2 ^ 52 = e + 1 := by omega
     have e2 : (e * 2 ^ 52 + m) % 2 ^ 52 = m - 2 ^ 52 := by omega
     rw [e1, e2]
     have : 2 ^ 52 + (m - 2 ^ 52) = m := by omega
     rw [this, Nat.add_sub_cancel]
   · have hm : m = 2 ^ 53 := by omega
     subst hm
     have e1 : (e * 2 ^ 52 + 2 ^ 53) / 2 ^ 52 = e + 2 := by omega
     have e2 : (e * 2 ^ 52 + 2 ^ 53) % 2 ^ 52 = 0 := by omega
     rw [e1, e2]
     have e3 : e + 2 - 1 = e + 1 := by omega
     have e4 : 2 ^ (e + 1) = 2 ^ e * 2 := Nat.pow_succ 2 e
     rw [e3, e4]
     generalize 2 ^ e = x
     omega
theorem k0g (r : Nat) : ∃ m, r = (r / 2 ^ 52 - 1) * 2 ^ 52 + m ∧ (r / 2 ^ 52 - 1 = 0 ∨ 2 ^ 52 ≤ m) ∧ m < 2 ^ 53 := by
 refine ⟨r - (r / 2 ^ 52 - 1) * 2 ^ 52, ?_⟩
 omega
theorem d0r (r : Nat) : rm (r + 1) = rm r + 2 ^ (r / 2 ^ 52 - 1) := by
 obtain ⟨m, h1, h2, h3⟩ := k0g r
 generalize r / 2 ^ 52 - 1 = e at h1 h2
 subst h1
 rw [Nat.add_assoc, m08 ⟨by omega, by omega⟩, m08 ⟨by omega, by omega⟩, Nat.add_mul, Nat.one_mul]
theorem o0f {a b : Nat} (h : a < b) : rm a < rm b := by
 obtain ⟨d, rfl⟩ : ∃ d, b = a + 1 + d := ⟨b - (a + 1), by omega⟩
 induction d with
 | zero => rw [Nat.add_zero, d0r]; have : 0 < 2 ^ (a / 2 ^ 52 - 1) := Nat.pow_pos (by omega); omega
 | succ d ih =>
   rw [← Nat.add_assoc, d0r]
   have := ih (by omega)
   have h2 : 0 < 2 ^ ((a + 1 + d) / 2 ^ 52 - 1) := Nat.pow_pos (by omega)
   omega
theorem n08 {a b : Nat} : rm a < rm b ↔ a < b := by
 refine ⟨fun h => ?_, o0f⟩
 rcases Nat.lt_or_ge a b with c | c
 · exact c
 · rcases Nat.eq_or_lt_of_le c with c | c
   · subst c; omega
   · have := o0f c; omega
theorem o08 {a b : Nat} : rm a ≤ rm b ↔ a ≤ b := by
 rw [← Nat.not_lt, ← Nat.not_lt, n08]
theorem t0v {a b : Nat} (h : rm a = rm b) : a = b := by
 have h1 := n08 (a := a) (b := b)
 have h2 := n08 (a := b) (b := a)
 omega
theorem p08 : rm 0 = 0 := by decide
theorem e0r {a : Nat} (h : 0 < a) : 0 < rm a := by have := o0f h; rw [p08] at this; exact this
theorem T0d : Ieee.double.infRung = infR := by decide
theorem q08 : Ieee.double.binade = 2 ^ 52 := rfl
theorem Q0h : Ieee.double.signWeight = 2 ^ 63 := rfl
theorem e09 : Ieee.double.leastPlace = -1074 := by decide
def okW (w : Nat) : Prop := w < 2 ^ 64 ∧ w % 2 ^ 63 ≤ infR
instance (w : Nat) : Decidable (okW w) := inferInstanceAs (Decidable (_ ∧ _))
def finW (w : Nat) : Prop := w < 2 ^ 64 ∧ w % 2 ^ 63 < infR
theorem finW.ok {w : Nat} (h : finW w) : okW w := ⟨h.1, Nat.le_of_lt h.2⟩
theorem M0s {w : Nat} (h : w % 2 ^ 63 < infR) :
 ∃ m e : Nat, Ieee.double.read w = .number (w / 2 ^ 63 % 2 == 1) m (-1074 + (e : Int)) ∧ rm (w % 2 ^ 63) = m * 2 ^ e ∧ ((e = 0 ∨ 2 ^ 52 ≤ m) ∧ m < 2 ^ 53) ∧ w % 2 ^ 63 = e * 2 ^ 52 + m := by
 unfold Ieee.Format.read
 simp only [q08, Q0h, T0d, e09]
 generalize w % 2 ^ 63 = r at h
 by_cases c : r < 2 ^ 52
 · rw [if_pos c]
   refine ⟨r, 0, by simp, ?_, ⟨by omega, by omega⟩, by omega⟩
   unfold rm; rw [if_pos c]; omega
 · rw [if_neg c, if_pos h]
   refine ⟨2 ^ 52 + r % 2 ^ 52, r / 2 ^ 52 - 1, rfl, ?_, ⟨by omega, by omega⟩, by omega⟩
   unfold rm; rw [if_neg c]
theorem b0d {w : Nat} (h : w % 2 ^ 63 = infR) : Ieee.double.read w = .infinity (w / 2 ^ 63 % 2 == 1) := by
 unfold Ieee.Format.read
 simp only [q08, Q0h, T0d, e09, h]
 rw [if_neg (by decide), if_neg (by decide), if_pos trivial]
theorem N0s {w : Nat} (h : infR < w % 2 ^ 63) : ∃ s f, Ieee.double.read w = .nan s f := by
 unfold Ieee.Format.read
 simp only [q08, Q0h, T0d, e09]
 have : 2 ^ 52 ≤ infR := by decide
 rw [if_neg (by omega), if_neg (by omega), if_neg (by omega)]
 exact ⟨_, _, rfl⟩
def key (w : Nat) : Int := if w < 2 ^ 63 then (w : Int) else -((w - 2 ^ 63 : Nat) : Int)
def kz (k : Int) : Int := if k < 0 then -(rm k.natAbs : Int) else (rm k.natAbs : Int)
theorem t0u {a b : Int} (h : a < b) : kz a < kz b := by
 unfold kz
 split <;> split
 · have := o0f (a := b.natAbs) (b := a.natAbs) (by omega); omega
 · have := e0r (a := a.natAbs) (by omega); omega
 · omega
 · have := o0f (a := a.natAbs) (b := b.natAbs) (by omega); omega
theorem J0a {a b : Int} : kz a < kz b ↔ a < b := by
 refine ⟨fun h => ?_, t0u⟩
 rcases Int.lt_or_le a b with c | c
 · exact c
 · rcases Int.lt_or_eq_of_le c with c | c
   · have := t0u c; omega
   · subst c; omega
theorem f0r (k : Int) : kz (-k) = -kz k := by
 unfold kz
 rw [Int.natAbs_neg]
 by_cases c : k = 0
 · subst c; simp [p08]
 · split <;> split <;> omega
theorem U0d {w : Nat} (h : w < 2 ^ 64) : (w / 2 ^ 63 % 2 == 1) = decide (2 ^ 63 ≤ w) := by
 by_cases c : w < 2 ^ 63
 · have : w / 2 ^ 63 = 0 := by omega
   rw [this, decide_eq_false (by omega)]; rfl
 · have : w / 2 ^ 63 = 1 := by omega
   rw [this, decide_eq_true (by omega)]; rfl
theorem K0a {w : Nat} (h : w < 2 ^ 64) : (key w).natAbs = w % 2 ^ 63 := by
 unfold key; split <;> omega
theorem g0r {a b c d : Int} (h1 : a < b ↔ c < d) (h2 : b < a ↔ d < c) : compare a b = compare c d := by
 show compareOfLessAndEq a b = compareOfLessAndEq c d
 unfold compareOfLessAndEq
 by_cases x : a < b
 · rw [if_pos x, if_pos (h1.1 x)]
 · rw [if_neg x, if_neg (fun y => x (h1.2 y))]
   by_cases y : a = b
   · rw [if_pos y, if_pos (by omega)]
   · rw [if_neg y, if_neg (by omega)]
theorem o0c {s : Bool} {m u e g : Nat} (h : u + g = e) : Ieee.signed s m u * ((2 ^ g : Nat) : Int) = if s then -((m * 2 ^ e : Nat) : Int) else ((m * 2 ^ e : Nat) : Int) := by
 unfold Ieee.signed
 rw [Nat.shiftLeft_eq]
 have : m * 2 ^ e = m * 2 ^ u * 2 ^ g := by rw [← h, Nat.pow_add, Nat.mul_assoc]
 rw [this]
 cases s <;> simp [Int.neg_mul]
theorem S0h {w : Nat} (h : finW w) : ∃ m e : Nat, Ieee.double.read w = .number (decide (2 ^ 63 ≤ w)) m (-1074 + (e : Int)) ∧ (if decide (2 ^ 63 ≤ w) = true then -((m * 2 ^ e : Nat) : Int) else ((m * 2 ^ e : Nat) : Int)) = kz (key w) := by
 obtain ⟨m, e, h1, h2, _⟩ := M0s h.2
 rw [U0d h.1] at h1
 refine ⟨m, e, h1, ?_⟩
 rw [← h2]
 unfold kz
 rw [K0a h.1]
 by_cases c : 2 ^ 63 ≤ w
 · rw [if_pos (by simpa using c)]
   by_cases z : key w < 0
   · rw [if_pos z]
   · rw [if_neg z]
     have : w % 2 ^ 63 = 0 := by unfold key at z; split at z <;> omega
     rw [this, p08]; rfl
 · rw [if_neg (by simpa using c), if_neg (by unfold key; rw [if_pos (by omega)]; omega)]
theorem T0h {w : Nat} (h : okW w) (hi : w % 2 ^ 63 = infR) : key w = if decide (2 ^ 63 ≤ w) = true then -(infR : Int) else (infR : Int) := by
 obtain ⟨h1, h2⟩ := h
 by_cases c : 2 ^ 63 ≤ w
 · rw [decide_eq_true c, if_pos rfl]
   unfold key infR at *
   rw [if_neg (by omega)]; omega
 · rw [decide_eq_false c, if_neg (by simp)]
   unfold key infR at *
   rw [if_pos (by omega)]; omega
theorem i0r {w : Nat} (h : finW w) : -(infR : Int) < key w ∧ key w < (infR : Int) := by
 obtain ⟨h1, h2⟩ := h
 unfold key infR at *
 split <;> omega
theorem okW.cases {w : Nat} (h : okW w) : finW w ∨ w % 2 ^ 63 = infR := by
 rcases Nat.lt_or_ge (w % 2 ^ 63) infR with c | c
 · exact .inl ⟨h.1, c⟩
 · exact .inr (by have := h.2; omega)
theorem L0a {x y : Nat} (hx : okW x) (hy : okW y) : FloatKind.f64.format.order x y = some (compare (key x) (key y)) := by
 show (Ieee.double.read x).order (Ieee.double.read y) = _
 have hI : (0 : Int) < (infR : Int) := by decide
 rcases hx.cases with fx | ix <;> rcases hy.cases with fy | iy
 · obtain ⟨m, e, h1, h2⟩ := S0h fx
   obtain ⟨n, g, h3, h4⟩ := S0h fy
   rw [h1, h3]
   simp only [Ieee.Datum.order]
   have b1 : (-1074 + (e : Int) - min (-1074 + (e : Int)) (-1074 + (g : Int))).toNat + min e g = e := by omega
   have b2 : (-1074 + (g : Int) - min (-1074 + (e : Int)) (-1074 + (g : Int))).toNat + min e g = g := by omega
   have s1 := o0c (s := decide (2 ^ 63 ≤ x)) (m := m) b1
   have s2 := o0c (s := decide (2 ^ 63 ≤ y)) (m := n) b2
   rw [h2] at s1
   rw [h4] at s2
   have hp : (0 : Int) < ((2 ^ min e g : Nat) : Int) := by have : 0 < 2 ^ min e g := Nat.pow_pos (by omega); omega
   congr 1
   refine g0r ?_ ?_
   · refine Iff.trans ?_ J0a
     rw [← s1, ← s2]; exact (Int.mul_lt_mul_right hp).symm
   · refine Iff.trans ?_ J0a
     rw [← s1, ← s2]; exact (Int.mul_lt_mul_right hp).symm
 · obtain ⟨m, e, h1, h2⟩ := S0h fx
   have k := i0r fx
   rw [h1, b0d iy, U0d hy.1, T0h hy iy]
   simp only [Ieee.Datum.order]
   cases decide (2 ^ 63 ≤ y)
   · simp only [Bool.false_eq_true, if_false]
     congr 1
     show _ = compareOfLessAndEq _ _
     unfold compareOfLessAndEq; rw [if_pos (by omega)]
   · simp only [if_true]
     congr 1
     show _ = compareOfLessAndEq _ _
     unfold compareOfLessAndEq; rw [if_neg (by omega), if_neg (by omega)]
 · obtain ⟨m, e, h1, h2⟩ := S0h fy
   have k := i0r fy
   rw [h1, b0d ix, U0d hx.1, T0h hx ix]
   simp only [Ieee.Datum.order]
   cases decide (2 ^ 63 ≤ x)
   · simp only [Bool.false_eq_true, if_false]
     congr 1
     show _ = compareOfLessAndEq _ _
     unfold compareOfLessAndEq; rw [if_neg (by omega), if_neg (by omega)]
   · simp only [if_true]
     congr 1
     show _ = compareOfLessAndEq _ _
     unfold compareOfLessAndEq; rw [if_pos (by omega)]
 · rw [b0d ix, b0d iy, U0d hx.1, U0d hy.1, T0h hx ix, T0h hy iy]
   simp only [Ieee.Datum.order]
   cases decide (2 ^ 63 ≤ x) <;> cases decide (2 ^ 63 ≤ y) <;> decide
theorem X09 {x y : Nat} (h : infR < x % 2 ^ 63) : FloatKind.f64.format.order x y = none := by
 show (Ieee.double.read x).order (Ieee.double.read y) = _
 obtain ⟨s, f, e⟩ := N0s h
 rw [e]; rfl
theorem M0t {x y : Nat} (hx : okW x) (hy : okW y) : (FloatKind.f64.format.order x y == some .lt) = decide (key x < key y) := by
 rw [L0a hx hy]
 show (some (compareOfLessAndEq _ _) == _) = _
 unfold compareOfLessAndEq
 by_cases c : key x < key y
 · rw [if_pos c, decide_eq_true c]; rfl
 · rw [if_neg c, decide_eq_false c]; split <;> rfl
theorem M0a {x y : Nat} (hx : okW x) (hy : okW y) : (FloatKind.f64.format.order x y == some .gt) = decide (key y < key x) := by
 rw [L0a hx hy]
 show (some (compareOfLessAndEq _ _) == _) = _
 unfold compareOfLessAndEq
 by_cases c : key x < key y
 · rw [if_pos c, decide_eq_false (by omega)]; rfl
 · rw [if_neg c]
   by_cases c2 : key x = key y
   · rw [if_pos c2, decide_eq_false (by omega)]; rfl
   · rw [if_neg c2, decide_eq_true (by omega)]; rfl
theorem N0a {x y : Nat} (hx : okW x) (hy : okW y) : (FloatKind.f64.format.order x y == some .eq) = decide (key x = key y) := by
 rw [L0a hx hy]
 show (some (compareOfLessAndEq _ _) == _) = _
 unfold compareOfLessAndEq
 by_cases c : key x < key y
 · rw [if_pos c, decide_eq_false (by omega)]; rfl
 · rw [if_neg c]
   by_cases c2 : key x = key y
   · rw [if_pos c2, decide_eq_true c2]; rfl
   · rw [if_neg c2, decide_eq_false c2]; rfl
def t01 (k : Int) : Nat := if k < 0 then 2 ^ 63 + k.natAbs else k.natAbs
theorem O0s {k : Int} (h1 : -(infR : Int) ≤ k) (h2 : k ≤ (infR : Int)) : okW (t01 k) := by
 unfold t01 okW infR at *; split <;> omega
theorem j0r {k : Int} (h1 : -(infR : Int) < k) (h2 : k < (infR : Int)) : finW (t01 k) := by
 unfold t01 finW infR at *; split <;> omega
theorem k0r {k : Int} (h1 : -(infR : Int) ≤ k) (h2 : k ≤ (infR : Int)) : key (t01 k) = k := by
 unfold key t01 infR at *
 by_cases c : k < 0
 · rw [if_pos c, if_neg (by omega)]; omega
 · rw [if_neg c, if_pos (by omega)]; omega
theorem m0k {w : Nat} (h : w < 2 ^ 64) (hz : w ≠ 2 ^ 63) : t01 (key w) = w := by
 unfold t01 key
 by_cases c : w < 2 ^ 63
 · rw [if_pos c, if_neg (by omega)]; omega
 · rw [if_neg c, if_pos (by omega)]; omega
theorem B07 {w : Nat} (h : w < 2 ^ 64) : Op.negFloat .f64 w = if w < 2 ^ 63 then w + 2 ^ 63 else w - 2 ^ 63 := by
 show w ^^^ 2 ^ 63 = _
 have h1 : (w ^^^ 2 ^ 63) % 2 ^ 63 = w % 2 ^ 63 := by
  rw [Nat.xor_mod_two_pow, Nat.mod_self, Nat.xor_zero]
 have h2 : (w ^^^ 2 ^ 63) / 2 ^ 63 = w / 2 ^ 63 ^^^ 1 := by
  rw [Nat.xor_div_two_pow, Nat.div_self (by omega)]
 by_cases c : w < 2 ^ 63
 · rw [if_pos c]
   have e : w / 2 ^ 63 = 0 := by omega
   rw [e] at h2
   have h3 : (0 ^^^ 1 : Nat) = 1 := by decide
   rw [h3] at h2
   omega
 · rw [if_neg c]
   have e : w / 2 ^ 63 = 1 := by omega
   rw [e] at h2
   have h3 : (1 ^^^ 1 : Nat) = 0 := by decide
   rw [h3] at h2
   omega
theorem E06 {w : Nat} (h : okW w) : okW (Op.negFloat .f64 w) ∧ key (Op.negFloat .f64 w) = -key w := by
 rw [B07 h.1]
 obtain ⟨h1, h2⟩ := h
 unfold okW key infR at *
 by_cases c : w < 2 ^ 63
 · rw [if_pos c, if_pos c]
   refine ⟨by omega, ?_⟩
   rw [if_neg (by omega)]; omega
 · rw [if_neg c, if_neg c]
   refine ⟨by omega, ?_⟩
   rw [if_pos (by omega)]; omega
theorem n0k {neg : Bool} {q drop : Nat} (h : q ≠ 0) : Ieee.Toward.even.cut neg (q * 2 ^ drop) drop = q := by
 have hp : 0 < 2 ^ drop := Nat.pow_pos (by omega)
 have hn : q * 2 ^ drop ≠ 0 := Nat.mul_ne_zero h (by omega)
 have hle : 2 ^ drop ≤ q * 2 ^ drop := Nat.le_mul_of_pos_left _ (by omega)
 have hl : drop ≤ (q * 2 ^ drop).log2 := (Nat.le_log2 hn).2 hle
 unfold Ieee.Toward.cut
 have e : 1 <<< min drop ((q * 2 ^ drop).log2 + 2) = 2 ^ drop := by
  rw [Nat.min_eq_left (by omega), Nat.shiftLeft_eq, Nat.one_mul]
 simp only [e, Nat.mul_div_cancel _ hp, Nat.mul_mod_left]
 have h1 : decide (2 ^ drop < 2 * 0) = false := by simp
 have h2 : (2 ^ drop == 2 * 0) = false := by simp
 rw [h1, h2]; simp
theorem c0d {n k : Nat} (h : n ≠ 0) : (n * 2 ^ k).log2 = n.log2 + k := by
 have hn : n * 2 ^ k ≠ 0 := Nat.mul_ne_zero h (by have : 0 < 2 ^ k := Nat.pow_pos (by omega); omega)
 have h1 := (Nat.log2_eq_iff h (k := n.log2)).1 rfl
 refine (Nat.log2_eq_iff hn).2 ⟨?_, ?_⟩
 · rw [Nat.pow_add]; exact Nat.mul_le_mul_right _ h1.1
 · have e : n.log2 + k + 1 = (n.log2 + 1) + k := by omega
   rw [e, Nat.pow_add]; exact Nat.mul_lt_mul_of_pos_right h1.2 (Nat.pow_pos (by omega))
theorem C07 {neg : Bool} {mag : Nat} {c04 : Int} {r : Nat} (hr : r < infR) (h0 : mag ≠ 0) {a b : Nat} (hab : c04 + 1074 = (a : Int) - b) (h : mag * 2 ^ a = rm r * 2 ^ b) :
 Ieee.double.nearest neg mag c04 = Ieee.double.word neg r := by
 obtain ⟨m, h1, h2, h3⟩ := k0g r
 generalize r / 2 ^ 52 - 1 = e at h1 h2
 have hrm : rm r = m * 2 ^ e := by rw [h1]; exact m08 ⟨by omega, by omega⟩
 rw [hrm, Nat.mul_assoc, ← Nat.pow_add] at h
 have hpa : 0 < 2 ^ a := Nat.pow_pos (by omega)
 have hm : m ≠ 0 := by
  intro c; rw [c, Nat.zero_mul] at h
  have := Nat.mul_ne_zero h0 (by omega : 2 ^ a ≠ 0)
  omega
 have hlog := congrArg Nat.log2 h
 rw [c0d h0, c0d hm] at hlog
 have hlast : max (c04 + (mag.log2 : Int) - (Ieee.double.fractionBits : Int)) Ieee.double.leastPlace = (e : Int) - 1074 := by
  rw [e09]
  show max (c04 + (mag.log2 : Int) - 52) (-1074) = _
  rcases h2 with h2 | h2
  · have : m.log2 ≤ 52 := by
      have := (Nat.log2_lt hm (k := 53)).2 h3
      omega
    omega
  · have : m.log2 = 52 := (Nat.log2_eq_iff hm).2 ⟨h2, h3⟩
    omega
 unfold Ieee.Format.nearest
 rw [if_neg h0]
 simp only [hlast]
 have hkept : Ieee.Toward.even.cut neg (mag <<< (c04 - ((e : Int) - 1074)).toNat) ((e : Int) - 1074 - c04).toNat = m := by
  rw [Nat.shiftLeft_eq]
  by_cases c : e + b ≤ a
  · have e1 : (c04 - ((e : Int) - 1074)).toNat = a - (e + b) := by omega
    have e2 : ((e : Int) - 1074 - c04).toNat = 0 := by omega
    rw [e1, e2]
    have : mag * 2 ^ (a - (e + b)) = m := by
     have hp : 0 < 2 ^ (e + b) := Nat.pow_pos (by omega)
     refine Nat.eq_of_mul_eq_mul_right hp ?_
     rw [Nat.mul_assoc, ← Nat.pow_add, Nat.sub_add_cancel c, h]
    rw [this]
    have := n0k (neg := neg) (drop := 0) hm
    rw [Nat.pow_zero, Nat.mul_one] at this; exact this
  · have e1 : (c04 - ((e : Int) - 1074)).toNat = 0 := by omega
    have e2 : ((e : Int) - 1074 - c04).toNat = e + b - a := by omega
    rw [e1, e2, Nat.pow_zero, Nat.mul_one]
    have : mag = m * 2 ^ (e + b - a) := by
     refine Nat.eq_of_mul_eq_mul_right hpa ?_
     rw [Nat.mul_assoc, ← Nat.pow_add, Nat.sub_add_cancel (by omega), h]
    rw [this]
    exact n0k hm
 rw [hkept, e09, q08, T0d]
 have e3 : ((e : Int) - 1074 - -1074).toNat = e := by omega
 rw [e3, ← h1, Nat.min_eq_left (by omega)]
theorem p0f {neg : Bool} {mag : Nat} {c04 : Int} {r : Nat} (hr : r < infR) (h0 : mag ≠ 0) {a : Nat} (hab : c04 + 1074 = (a : Int)) (h : mag * 2 ^ a = rm r) :
 Ieee.double.nearest neg mag c04 = Ieee.double.word neg r := C07 hr h0 (a := a) (b := 0) (by omega) (by rw [h, Nat.pow_zero, Nat.mul_one])
theorem u0u {n k : Nat} (h0 : n ≠ 0) (h : n < 2 ^ 53) : ∃ r, rm r = n * 2 ^ k ∧ (52 ≤ n.log2 + k → r = (n.log2 + k - 52) * 2 ^ 52 + n * 2 ^ (52 - n.log2) ∧ 2 ^ 52 ≤ n * 2 ^ (52 - n.log2) ∧ n * 2 ^ (52 - n.log2) < 2 ^ 53) := by
 have hl := (Nat.log2_eq_iff h0 (k := n.log2)).1 rfl
 have h52 : n.log2 ≤ 52 := by have := (Nat.log2_lt h0 (k := 53)).2 h; omega
 by_cases c : 52 ≤ n.log2 + k
 · have b1 : 2 ^ 52 ≤ n * 2 ^ (52 - n.log2) := by
     have e : (2 : Nat) ^ 52 = 2 ^ n.log2 * 2 ^ (52 - n.log2) := by rw [← Nat.pow_add]; congr 1; omega
     rw [e]; exact Nat.mul_le_mul_right _ hl.1
   have b2 : n * 2 ^ (52 - n.log2) < 2 ^ 53 := by
    have e : (2 : Nat) ^ 53 = 2 ^ (n.log2 + 1) * 2 ^ (52 - n.log2) := by rw [← Nat.pow_add]; congr 1; omega
    rw [e]; exact Nat.mul_lt_mul_of_pos_right hl.2 (Nat.pow_pos (by omega))
   refine ⟨(n.log2 + k - 52) * 2 ^ 52 + n * 2 ^ (52 - n.log2), ?_, fun _ => ⟨rfl, b1, b2⟩⟩
   rw [m08 ⟨.inr b1, by omega⟩, Nat.mul_assoc, ← Nat.pow_add]
   congr 2; omega
 · refine ⟨n * 2 ^ k, ?_, fun h => absurd h c⟩
   have : n * 2 ^ k < 2 ^ 52 := by
    have h1 : n * 2 ^ k < 2 ^ (n.log2 + 1) * 2 ^ k := Nat.mul_lt_mul_of_pos_right hl.2 (Nat.pow_pos (by omega))
    rw [← Nat.pow_add] at h1
    have h2 : 2 ^ (n.log2 + 1 + k) ≤ 2 ^ 52 := Nat.pow_le_pow_right (by omega) (by omega)
    omega
   unfold rm; rw [if_pos this]
theorem u0v {r e : Nat} (h : r = e * 2 ^ 52 + 2 ^ 52) : rm r = 2 ^ 52 * 2 ^ e := by rw [h]; exact m08 ⟨.inr (Nat.le_refl _), by omega⟩
theorem w0v {r e : Nat} (h : r = e * 2 ^ 52 + (2 ^ 53 - 1)) : rm r = (2 ^ 53 - 1) * 2 ^ e := by rw [h]; exact m08 ⟨.inr (by omega), by omega⟩
theorem l0r {a b : Nat} (h : a < b) : 2 ^ a < 2 ^ b := (Nat.pow_lt_pow_iff_right (by omega)).2 h
theorem x0v {a b : Nat} (h : a = b + 1) : 2 ^ 52 * 2 ^ a = 2 ^ 53 * 2 ^ b := by
 subst h; rw [Nat.pow_succ]; omega
theorem W0d {e : Nat} (he : e = 2046) : rm infR = 2 ^ (52 + e) := by
 rw [Nat.pow_add]; exact u0v (by subst he; decide)
theorem y0v {r n k : Nat} (h : rm r = n * 2 ^ k) (hn : n.log2 + k < 2098) (h0 : n ≠ 0) : r < infR := by
 obtain ⟨e, he⟩ : ∃ e, e = 2046 := ⟨_, rfl⟩
 rw [← n08, h, W0d he]
 have hl := (Nat.log2_eq_iff h0 (k := n.log2)).1 rfl
 have h1 : n * 2 ^ k < 2 ^ (n.log2 + 1) * 2 ^ k := Nat.mul_lt_mul_of_pos_right hl.2 (Nat.pow_pos (by omega))
 rw [← Nat.pow_add] at h1
 exact Nat.lt_of_lt_of_le h1 (Nat.pow_le_pow_right (by omega) (by omega))
theorem z0v {r n k : Nat} (h : rm r = n * 2 ^ k) (hr : r < infR) (h0 : n ≠ 0) : n.log2 + k < 2098 := by
 obtain ⟨e, he⟩ : ∃ e, e = 2046 := ⟨_, rfl⟩
 rw [← n08, h, W0d he] at hr
 have hl := (Nat.log2_eq_iff h0 (k := n.log2)).1 rfl
 have h1 : 2 ^ n.log2 * 2 ^ k ≤ n * 2 ^ k := Nat.mul_le_mul_right _ hl.1
 rw [← Nat.pow_add] at h1
 have h2 : 2 ^ (n.log2 + k) < 2 ^ (52 + e) := Nat.lt_of_le_of_lt h1 hr
 have := (Nat.pow_lt_pow_iff_right (by omega)).1 h2
 omega
theorem o0k {e m : Nat} (he : e ≤ 2045) (h1 : 2 ^ 52 ≤ m) (h2 : m < 2 ^ 53) : Ieee.double.read (e * 2 ^ 52 + m) = .number false m (-1074 + (e : Int)) := by
 have hb : e * 2 ^ 52 + m < 2 ^ 63 := by omega
 unfold Ieee.Format.read
 simp only [q08, Q0h, T0d, e09]
 have e1 : (e * 2 ^ 52 + m) / 2 ^ 63 = 0 := Nat.div_eq_of_lt hb
 have e2 : (e * 2 ^ 52 + m) % 2 ^ 63 = e * 2 ^ 52 + m := Nat.mod_eq_of_lt hb
 rw [e1, e2]
 have hi : e * 2 ^ 52 + m < infR := by unfold infR; omega
 rw [if_neg (by omega), if_pos hi]
 have e3 : (e * 2 ^ 52 + m) % 2 ^ 52 = m - 2 ^ 52 := by omega
 have e4 : (e * 2 ^ 52 + m) / 2 ^ 52 = e + 1 := by omega
 rw [e3, e4]
 have e5 : 2 ^ 52 + (m - 2 ^ 52) = m := by omega
 rw [e5]; rfl
theorem p0k {x y r : Nat} {m n : Nat} {i j : Int} (hx : Ieee.double.read x = .number false m i) (hy : Ieee.double.read y = .number false n j) (hr : r < infR) (h0 : m ≠ 0) (h1 : n ≠ 0) {a b : Nat} (hab : i + j + 1074 = (a : Int) - b) (h : m * n * 2 ^ a = rm r * 2 ^ b) :
 FloatKind.f64.format.mul x y = some r := by
 show ((Ieee.double.read x).product (Ieee.double.read y)).map Ieee.double.write = some r
 rw [hx, hy]
 show some (Ieee.double.nearest false (m * n) (i + j)) = some r
 rw [C07 hr (Nat.mul_ne_zero h0 h1) hab h]; rfl
theorem t0m {n : Nat} (h0 : n ≠ 0) (h : n < 2 ^ 53) : FloatKind.f64.nearest (n : Int) = (n.log2 + 1022) * 2 ^ 52 + n * 2 ^ (52 - n.log2) ∧ 2 ^ 52 ≤ n * 2 ^ (52 - n.log2) ∧ n * 2 ^ (52 - n.log2) < 2 ^ 53 := by
 obtain ⟨r, hr, hd⟩ := u0u (k := 1074) h0 h
 obtain ⟨h1, h2, h3⟩ := hd (by omega)
 have h52 : n.log2 ≤ 52 := by have := (Nat.log2_lt h0 (k := 53)).2 h; omega
 refine ⟨?_, h2, h3⟩
 have e : n.log2 + 1074 - 52 = n.log2 + 1022 := by omega
 rw [e] at h1
 rw [← h1]
 show Ieee.double.nearest (decide ((n : Int) < 0)) (n : Int).natAbs 0 = r
 have e2 : decide ((n : Int) < 0) = false := decide_eq_false (by omega)
 rw [e2, Int.natAbs_natCast, C07 (r := r) (y0v hr (by omega) h0) h0 (a := 1074) (b := 0) (by omega) (by rw [hr, Nat.pow_zero, Nat.mul_one])]
 rfl
theorem q0k {n : Nat} (h0 : n ≠ 0) (h : n ≤ 2 ^ 53) : ∃ e m, FloatKind.f64.nearest (n : Int) = e * 2 ^ 52 + m ∧ 2 ^ 52 ≤ m ∧ m < 2 ^ 53 ∧ m * 2 ^ e = n * 2 ^ 1074 ∧ 1022 ≤ e ∧ e ≤ 1075 := by
 by_cases c : n < 2 ^ 53
 · obtain ⟨h1, h2, h3⟩ := t0m h0 c
   have h52 : n.log2 ≤ 52 := by have := (Nat.log2_lt h0 (k := 53)).2 c; omega
   refine ⟨_, _, h1, h2, h3, ?_, by omega, by omega⟩
   have e : 52 - n.log2 + (n.log2 + 1022) = 1074 := by omega
   rw [Nat.mul_assoc, ← Nat.pow_add, e]
 · have : n = 2 ^ 53 := by omega
   subst this
   have hr : rm (1075 * 2 ^ 52 + 2 ^ 52) = 2 ^ 52 * 2 ^ 1075 := u0v (r := 1075 * 2 ^ 52 + 2 ^ 52) (e := 1075) rfl
   have hi : 1075 * 2 ^ 52 + 2 ^ 52 < infR := by unfold infR; omega
   have e3 : 2 ^ 52 * 2 ^ 1075 = 2 ^ 53 * 2 ^ 1074 := x0v (a := 1075) (b := 1074) rfl
   have h5 : 2 ^ 53 * 2 ^ 1074 = rm (1075 * 2 ^ 52 + 2 ^ 52) := e3.symm.trans hr.symm
   refine ⟨1075, 2 ^ 52, ?_, by omega, by omega, e3, by omega, by omega⟩
   show Ieee.double.nearest (decide (((2 ^ 53 : Nat) : Int) < 0)) ((2 ^ 53 : Nat) : Int).natAbs 0 = _
   have e2 : decide (((2 ^ 53 : Nat) : Int) < 0) = false := decide_eq_false (by omega)
   rw [e2, Int.natAbs_natCast, p0f hi (by omega) (a := 1074) (by omega) h5]
   rfl
theorem O0c : FloatKind.f64.nearest 0 = 0 := by decide

structure z03 (r n d : Nat) : Prop where
 lt : r < infR
 le : rm r * d ≤ n * 2 ^ 1074
 next : r + 1 = infR ∨ n * 2 ^ 1074 < rm (r + 1) * d
structure IsUp (r n d : Nat) : Prop where
 le : r ≤ infR
 ge : r = infR ∨ n * 2 ^ 1074 ≤ rm r * d
 prev : r = 0 ∨ rm (r - 1) * d < n * 2 ^ 1074
theorem z03.unique {r s n d : Nat} (_ : 0 < d) (h : z03 r n d) (k : z03 s n d) : r = s := by
 have key : ∀ {a b}, z03 a n d → z03 b n d → ¬ a < b := by
  intro a b ha hb c
  rcases ha.next with e | e
  · have := hb.lt; omega
  · have h1 : rm (a + 1) ≤ rm b := o08.2 (by omega)
    have h2 := Nat.mul_le_mul_right d h1
    have := hb.le; omega
 have := key h k
 have := key k h
 omega
theorem IsUp.unique {r s n d : Nat} (_ : 0 < d) (h : IsUp r n d) (k : IsUp s n d) : r = s := by
 have key : ∀ {a b}, IsUp a n d → IsUp b n d → ¬ a < b := by
  intro a b ha hb c
  rcases ha.ge with e | e
  · have := hb.le; omega
  · rcases hb.prev with e2 | e2
    · omega
    · have h1 : rm a ≤ rm (b - 1) := o08.2 (by omega)
      have h2 := Nat.mul_le_mul_right d h1
      omega
 have := key h k
 have := key k h
 omega
def Mag (n d : Nat) (e : Int) : Prop := ∃ A B : Nat, e = (B : Int) - A ∧ d * 2 ^ B ≤ n * 2 ^ A ∧ n * 2 ^ A < d * 2 ^ (B + 1)
theorem m06 (k : Nat) : 0 < 2 ^ k := Nat.pow_pos (by omega)
theorem U0h {d i j : Nat} (_ : 0 < d) (h : d * 2 ^ i < d * 2 ^ j) : i < j := (Nat.pow_lt_pow_iff_right (by omega)).1 (Nat.lt_of_mul_lt_mul_left h)
theorem G0g {n d x y A B : Nat} (h1 : 2 ^ (x - 1) ≤ n) (h2 : n < 2 ^ x) (h3 : 2 ^ (y - 1) ≤ d) (h4 : d < 2 ^ y) (hx : 1 ≤ x) (hy : 1 ≤ y) (hA : x + A = y + B) :
 (n * 2 ^ A < d * 2 ^ B → Mag n d ((B : Int) - A - 1)) ∧ (d * 2 ^ B ≤ n * 2 ^ A → Mag n d ((B : Int) - A)) := by
 constructor
 · intro h
   refine ⟨A + 1, B, by omega, ?_, ?_⟩
   · have a1 : d * 2 ^ B ≤ 2 ^ y * 2 ^ B := Nat.mul_le_mul_right _ (by omega)
     have a2 : 2 ^ (x - 1) * 2 ^ (A + 1) ≤ n * 2 ^ (A + 1) := Nat.mul_le_mul_right _ h1
     rw [← Nat.pow_add] at a1 a2
     have e : x - 1 + (A + 1) = y + B := by omega
     rw [e] at a2; omega
   · rw [Nat.pow_succ, Nat.pow_succ, ← Nat.mul_assoc, ← Nat.mul_assoc]; omega
 · intro h
   refine ⟨A, B, rfl, h, ?_⟩
   have a1 : n * 2 ^ A < 2 ^ x * 2 ^ A := Nat.mul_lt_mul_of_pos_right h2 (m06 A)
   have a2 : 2 ^ (y - 1) * 2 ^ (B + 1) ≤ d * 2 ^ (B + 1) := Nat.mul_le_mul_right _ h3
   rw [← Nat.pow_add] at a1 a2
   have e : y - 1 + (B + 1) = x + A := by omega
   rw [e] at a2; omega
theorem P0s (x y d : Nat) : x * y * d = d * x * y := by ac_rfl
theorem Q0s {R d x y n : Nat} (h : R = x * y) (a : d * x ≤ n) : R * d ≤ n * y := by
 rw [h, P0s]; exact Nat.mul_le_mul_right y a
theorem B0p {a b c : Nat} (h : a = b + c) : 2 ^ a = 2 ^ b * 2 ^ c := by rw [h, Nat.pow_add]
theorem Mag.over {n d : Nat} {e : Int} (h : Mag n d e) (he : 1024 ≤ e) : rm infR * d ≤ n * 2 ^ 1074 := by
 obtain ⟨A, B, rfl, h1, _⟩ := h
 obtain ⟨k, rfl⟩ : ∃ k, B = A + 1024 + k := ⟨B - (A + 1024), by omega⟩
 have a : d * 2 ^ 1024 ≤ n := by
  refine Nat.le_of_mul_le_mul_right ?_ (m06 A)
  refine Nat.le_trans ?_ h1
  rw [Nat.mul_assoc, ← Nat.pow_add 2 1024 A]
  exact Nat.mul_le_mul_left _ (Nat.pow_le_pow_right (by omega) (by omega))
 obtain ⟨g, hg⟩ : ∃ g, g = 2046 := ⟨_, rfl⟩
 have hp : 2 ^ (52 + g) = 2 ^ 1024 * 2 ^ 1074 := B0p (a := 52 + g) (b := 1024) (c := 1074) (by omega)
 exact Q0s ((W0d hg).trans hp) a
theorem N0b {n d : Nat} {e last : Int} (hd : 0 < d) (h : Mag n d e) (he : e ≤ 1023) (hl : last = max (e - 52) (-1074)) {a b q t : Nat} (ha : (a : Int) = max (-last) 0) (hb : (b : Int) = max last 0) (hq : q = n * 2 ^ a / (d * 2 ^ b)) (ht : (t : Int) = last + 1074) :
 q < 2 ^ 53 ∧ (t = 0 ∨ 2 ^ 52 ≤ q) ∧ t ≤ 2045 ∧ rm (t * 2 ^ 52 + q) = q * 2 ^ t ∧ z03 (t * 2 ^ 52 + q) n d ∧
  (n * 2 ^ a % (d * 2 ^ b) = 0 → IsUp (t * 2 ^ 52 + q) n d) ∧ (n * 2 ^ a % (d * 2 ^ b) ≠ 0 → IsUp (t * 2 ^ 52 + q + 1) n d) ∧ rm (t * 2 ^ 52 + q + 1) = (q + 1) * 2 ^ t := by
 have hub : 0 < d * 2 ^ b := Nat.mul_pos hd (m06 b)
 have f1 : q * (d * 2 ^ b) ≤ n * 2 ^ a := by rw [hq]; exact Nat.div_mul_le_self _ _
 have f2 : n * 2 ^ a < (q + 1) * (d * 2 ^ b) := by
  have := Nat.lt_mul_div_succ (n * 2 ^ a) hub
  rw [hq, Nat.mul_comm (n * 2 ^ a / (d * 2 ^ b) + 1)]; exact this
 have f3 : n * 2 ^ a = q * (d * 2 ^ b) + n * 2 ^ a % (d * 2 ^ b) := by
  rw [hq, Nat.mul_comm (n * 2 ^ a / (d * 2 ^ b))]; exact (Nat.div_add_mod _ _).symm
 obtain ⟨A, B, rfl, m1, m2⟩ := h
 have hq53 : q < 2 ^ 53 := by
  rcases Nat.lt_or_ge q (2 ^ 53) with c | c
  · exact c
  · exfalso
    have g1 : 2 ^ 53 * (d * 2 ^ b) ≤ n * 2 ^ a := Nat.le_trans (Nat.mul_le_mul_right _ c) f1
    have g2 := Nat.mul_le_mul_right (2 ^ A) g1
    have g3 := Nat.mul_lt_mul_of_pos_right m2 (m06 a)
    have e1 : 2 ^ 53 * (d * 2 ^ b) * 2 ^ A = d * 2 ^ (53 + b + A) := by rw [Nat.pow_add, Nat.pow_add]; ac_rfl
    have e2 : n * 2 ^ a * 2 ^ A = n * 2 ^ A * 2 ^ a := by ac_rfl
    have e3 : d * 2 ^ (B + 1) * 2 ^ a = d * 2 ^ (B + 1 + a) := by rw [Nat.mul_assoc, ← Nat.pow_add]
    rw [e1, e2] at g2
    rw [e3] at g3
    have := U0h hd (Nat.lt_of_le_of_lt g2 g3)
    omega
 have hq52 : t = 0 ∨ 2 ^ 52 ≤ q := by
  by_cases c : t = 0
  · exact .inl c
  · refine .inr ?_
    rw [hq, Nat.le_div_iff_mul_le hub]
    refine Nat.le_of_mul_le_mul_right ?_ (m06 A)
    have g := Nat.mul_le_mul_right (2 ^ a) m1
    have e1 : 2 ^ 52 * (d * 2 ^ b) * 2 ^ A = d * 2 ^ (52 + b + A) := by rw [Nat.pow_add, Nat.pow_add]; ac_rfl
    have e2 : n * 2 ^ a * 2 ^ A = n * 2 ^ A * 2 ^ a := by ac_rfl
    have e3 : d * 2 ^ B * 2 ^ a = d * 2 ^ (B + a) := by rw [Nat.mul_assoc, ← Nat.pow_add]
    have e4 : 52 + b + A = B + a := by omega
    rw [e1, e2, e4, ← e3]; exact g
 have ht5 : t ≤ 2045 := by omega
 have hr0 : rm (t * 2 ^ 52 + q) = q * 2 ^ t := m08 ⟨hq52, by omega⟩
 have hr1 : rm (t * 2 ^ 52 + q + 1) = (q + 1) * 2 ^ t := by rw [Nat.add_assoc]; exact m08 ⟨by omega, by omega⟩
 -- the same at the common c04
 obtain ⟨c, hc⟩ : ∃ c, 1074 = a + c := ⟨1074 - a, by omega⟩
 have htb : t = b + c := by omega
 have s0 : ∀ k : Nat, k * 2 ^ t * d = k * (d * 2 ^ b) * 2 ^ c := by intro k; rw [htb, Nat.pow_add]; ac_rfl
 have s1 : n * 2 ^ 1074 = n * 2 ^ a * 2 ^ c := by rw [hc, Nat.pow_add]; ac_rfl
 have g1 : q * 2 ^ t * d ≤ n * 2 ^ 1074 := by rw [s0, s1]; exact Nat.mul_le_mul_right _ f1
 have g2 : n * 2 ^ 1074 < (q + 1) * 2 ^ t * d := by rw [s0, s1]; exact Nat.mul_lt_mul_of_pos_right f2 (m06 c)
 have hinf : t * 2 ^ 52 + q < infR := by unfold infR; omega
 refine ⟨hq53, hq52, ht5, hr0, ⟨hinf, by rw [hr0]; exact g1, .inr (by rw [hr1]; exact g2)⟩, fun h0 => ?_, fun h0 => ?_, hr1⟩
 · have g3 : q * 2 ^ t * d = n * 2 ^ 1074 := by rw [s0, s1, f3, h0, Nat.add_zero]
   refine ⟨by omega, .inr (by rw [hr0, g3]; exact Nat.le_refl _), ?_⟩
   by_cases z : t * 2 ^ 52 + q = 0
   · exact .inl z
   · refine .inr ?_
     rw [← g3, ← hr0]
     exact Nat.mul_lt_mul_of_pos_right (o0f (by omega)) hd
 · refine ⟨by omega, ?_, .inr ?_⟩
   · exact .inr (by rw [hr1]; omega)
   · rw [Nat.add_sub_cancel, hr0, s0, s1]
     exact Nat.mul_lt_mul_of_pos_right (by omega) (m06 c)

def magE (n d : Nat) : Int :=
 if n * 2 ^ (max ((bl d : Int) - bl n) 0).toNat < d * 2 ^ (max ((bl n : Int) - bl d) 0).toNat then (bl n : Int) - bl d - 1 else (bl n : Int) - bl d
theorem s0k {n d : Nat} (hn : n ≠ 0) (hd : d ≠ 0) : Mag n d (magE n d) := by
 obtain ⟨A, hA⟩ : ∃ A, A = (max ((bl d : Int) - bl n) 0).toNat := ⟨_, rfl⟩
 obtain ⟨B, hB⟩ : ∃ B, B = (max ((bl n : Int) - bl d) 0).toNat := ⟨_, rfl⟩
 have h := G0g (n := n) (d := d) (x := bl n) (y := bl d) (A := A) (B := B) (F0a hn) (K0b n) (F0a hd) (K0b d) (Q0d hn) (Q0d hd) (by omega)
 unfold magE
 rw [← hA, ← hB]
 have e : (bl n : Int) - bl d = (B : Int) - A := by omega
 rw [e]
 split
 · exact h.1 (by assumption)
 · exact h.2 (by omega)
def c04 (n d : Nat) : Int := max (magE n d - 52) (-1074)
def top (n d : Nat) : Nat := n * 2 ^ (max (-c04 n d) 0).toNat
def bot (n d : Nat) : Nat := d * 2 ^ (max (c04 n d) 0).toNat
def D07 (n d : Nat) : Nat :=
 if n = 0 then 0 else if magE n d > 1023 then infR - 1 else (c04 n d + 1074).toNat * 2 ^ 52 + top n d / bot n d
def upK (n d : Nat) : Nat :=
 if n = 0 then 0 else if magE n d > 1023 then infR
 else if top n d % bot n d = 0 then (c04 n d + 1074).toNat * 2 ^ 52 + top n d / bot n d else (c04 n d + 1074).toNat * 2 ^ 52 + top n d / bot n d + 1
theorem m0r {n K x : Nat} (h : n = 0) (hx : 0 < x) : n * K < x := by rw [h, Nat.zero_mul]; exact hx
theorem n0r {n K x : Nat} (h : n = 0) : n * K ≤ x := by rw [h, Nat.zero_mul]; exact Nat.zero_le _
theorem C0p {d x : Nat} : rm 0 * d ≤ x := by rw [p08, Nat.zero_mul]; exact Nat.zero_le _
theorem z03.zeroN {n d : Nat} (h : n = 0) (hd : 0 < d) : z03 0 n d := ⟨by decide, C0p, .inr (m0r h (Nat.mul_pos (e0r (by omega)) hd))⟩
theorem IsUp.zeroN {n d : Nat} (h : n = 0) : IsUp 0 n d := ⟨by decide, .inr (n0r h), .inl rfl⟩
theorem z03.zero {d : Nat} (hd : 0 < d) : z03 0 0 d := z03.zeroN rfl hd
theorem IsUp.zero (d : Nat) : IsUp 0 0 d := IsUp.zeroN rfl
theorem z03.most {n d : Nat} (h : rm infR * d ≤ n * 2 ^ 1074) : z03 (infR - 1) n d :=
 ⟨by decide, Nat.le_trans (Nat.mul_le_mul_right d (o08.2 (by omega))) h, .inl (by decide)⟩
theorem IsUp.most {n d : Nat} (hd : 0 < d) (h : rm infR * d ≤ n * 2 ^ 1074) : IsUp infR n d :=
 ⟨Nat.le_refl _, .inl rfl, .inr (Nat.lt_of_lt_of_le (Nat.mul_lt_mul_of_pos_right (o0f (by decide)) hd) h)⟩
theorem I03 {n d : Nat} (hd : 0 < d) : z03 (D07 n d) n d := by
 unfold D07
 by_cases h0 : n = 0
 · rw [if_pos h0, h0]; exact .zero hd
 · rw [if_neg h0]
   have hM := s0k h0 (by omega : d ≠ 0)
   by_cases hc : magE n d > 1023
   · rw [if_pos hc]; exact .most (hM.over (by omega))
   · rw [if_neg hc]
     exact (N0b hd hM (by omega) (last := c04 n d) rfl (a := (max (-c04 n d) 0).toNat) (b := (max (c04 n d) 0).toNat) (t := (c04 n d + 1074).toNat) (by omega) (by omega) rfl (by unfold c04; omega)).2.2.2.2.1
theorem W05 {n d : Nat} (hd : 0 < d) : IsUp (upK n d) n d := by
 unfold upK
 by_cases h0 : n = 0
 · rw [if_pos h0, h0]; exact .zero d
 · rw [if_neg h0]
   have hM := s0k h0 (by omega : d ≠ 0)
   by_cases hc : magE n d > 1023
   · rw [if_pos hc]; exact .most hd (hM.over (by omega))
   · rw [if_neg hc]
     have f := (N0b hd hM (by omega) (last := c04 n d) rfl (a := (max (-c04 n d) 0).toNat) (b := (max (c04 n d) 0).toNat) (t := (c04 n d + 1074).toNat) (by omega) (by omega) rfl (by unfold c04; omega)).2.2.2.2.2
     by_cases z : top n d % bot n d = 0
     · rw [if_pos z]; exact f.1 z
     · rw [if_neg z]; exact f.2.1 z
theorem o0r {n d n' d' a K : Nat} (hd : 0 < d) (h : n * d' = n' * d) : a * d' ≤ n' * K ↔ a * d ≤ n * K ∨ d' = 0 := by
 by_cases z : d' = 0
 · simp [z]
 · have hd' : 0 < d' := by omega
   constructor
   · intro g
     refine .inl (Nat.le_of_mul_le_mul_right ?_ hd')
     have g2 := Nat.mul_le_mul_right d g
     have e1 : a * d * d' = a * d' * d := by ac_rfl
     have e2 : n * K * d' = n' * K * d := by
      have : n * K * d' = n * d' * K := by ac_rfl
      rw [this, h]; ac_rfl
     rw [e1, e2]; exact g2
   · rintro (g | g)
     · refine Nat.le_of_mul_le_mul_right ?_ hd
       have g2 := Nat.mul_le_mul_right d' g
       have e1 : a * d' * d = a * d * d' := by ac_rfl
       have e2 : n' * K * d = n * K * d' := by
        have : n * K * d' = n * d' * K := by ac_rfl
        rw [this, h]; ac_rfl
       rw [e1, e2]; exact g2
     · exact absurd g z
theorem p0r {n d n' d' a K : Nat} (hd : 0 < d) (hd' : 0 < d') (h : n * d' = n' * d) : n' * K ≤ a * d' ↔ n * K ≤ a * d := by
 have e2 : n * K * d' = n' * K * d := by
  have : n * K * d' = n * d' * K := by ac_rfl
  rw [this, h]; ac_rfl
 constructor
 · intro g
   refine Nat.le_of_mul_le_mul_right ?_ hd'
   rw [e2]
   have g2 := Nat.mul_le_mul_right d g
   have e1 : a * d * d' = a * d' * d := by ac_rfl
   rw [e1]; exact g2
 · intro g
   refine Nat.le_of_mul_le_mul_right ?_ hd
   rw [← e2]
   have g2 := Nat.mul_le_mul_right d' g
   have e1 : a * d' * d = a * d * d' := by ac_rfl
   rw [e1]; exact g2
theorem z03.congr {r n d n' d' : Nat} (hd : 0 < d) (hd' : 0 < d') (h : n * d' = n' * d) (k : z03 r n d) : z03 r n' d' := by
 refine ⟨k.lt, (@o0r n d n' d' (rm r) _ hd h).2 (.inl k.le), ?_⟩
 rcases k.next with e | e
 · exact .inl e
 · refine .inr (Nat.lt_of_not_le fun g => ?_)
   rcases (@o0r n d n' d' (rm (r + 1)) _ hd h).1 g with g | g
   · omega
   · omega
theorem IsUp.congr {r n d n' d' : Nat} (hd : 0 < d) (hd' : 0 < d') (h : n * d' = n' * d) (k : IsUp r n d) : IsUp r n' d' := by
 refine ⟨k.le, ?_, ?_⟩
 · rcases k.ge with e | e
   · exact .inl e
   · exact .inr ((@p0r n d n' d' (rm r) _ hd hd' h).2 e)
 · rcases k.prev with e | e
   · exact .inl e
   · refine .inr (Nat.lt_of_not_le fun g => ?_)
     have := (@p0r n d n' d' (rm (r - 1)) _ hd hd' h).1 g
     omega
def g01 (q : Rat) : Int := if 0 ≤ q.num then (D07 q.num.natAbs q.den : Int) else -(upK q.num.natAbs q.den : Int)
def U02 (q : Rat) : Int := if 0 ≤ q.num then (upK q.num.natAbs q.den : Int) else -(D07 q.num.natAbs q.den : Int)

structure Eb where
 inf : Int
 x : Rat
deriving DecidableEq
namespace Eb
def fin (x : Rat) : Eb := ⟨0, x⟩
def ok (a : Eb) : Prop := a.inf = 0 ∨ (a.x = 0 ∧ (a.inf = 1 ∨ a.inf = -1))
def num (a : Eb) : Cq := ⟨a.x, 0⟩
def cmp (a b : Eb) : Int := if a.inf ≠ 0 ∨ b.inf ≠ 0 then cmpZ a.inf b.inf else cmpR a.x b.x
def sign (a : Eb) : Int := cmp a (fin 0)
def neg (a : Eb) : Eb := ⟨-a.inf, -a.x⟩
def add (a b : Eb) : Eb := if a.inf ≠ 0 then a else if b.inf ≠ 0 then b else ⟨0, a.x + b.x⟩
def mul (a b : Eb) : Eb := if a.inf = 0 ∧ b.inf = 0 then ⟨0, a.x * b.x⟩ else ⟨a.sign * b.sign, 0⟩
theorem fin_ok (x : Rat) : (fin x).ok := .inl rfl
theorem neg_ok {a : Eb} (h : a.ok) : a.neg.ok := by
 rcases h with h | ⟨h, h2⟩
 · left; show -a.inf = 0; omega
 · right; refine ⟨?_, ?_⟩
   · show -a.x = 0; rw [h]; rfl
   · show -a.inf = 1 ∨ -a.inf = -1; omega
theorem add_ok {a b : Eb} (h : a.ok) (k : b.ok) : (a.add b).ok := by
 unfold add; split
 · exact h
 · split
   · exact k
   · exact .inl rfl
theorem D0p (a b : Int) : cmpZ a b = -1 ∨ cmpZ a b = 0 ∨ cmpZ a b = 1 := by unfold cmpZ; split <;> (try split) <;> simp
theorem E0p (a b : Rat) : cmpR a b = -1 ∨ cmpR a b = 0 ∨ cmpR a b = 1 := by unfold cmpR; split <;> (try split) <;> simp
theorem cmp_range (a b : Eb) : cmp a b = -1 ∨ cmp a b = 0 ∨ cmp a b = 1 := by
 unfold cmp; split
 · exact D0p _ _
 · exact E0p _ _
theorem mul_ok (a b : Eb) : (a.mul b).ok := by
 unfold mul; split
 · exact .inl rfl
 · have h1 : a.sign = -1 ∨ a.sign = 0 ∨ a.sign = 1 := cmp_range _ _
   have h2 : b.sign = -1 ∨ b.sign = 0 ∨ b.sign = 1 := cmp_range _ _
   rcases h1 with h1 | h1 | h1 <;> rcases h2 with h2 | h2 | h2 <;> rw [h1, h2] <;> unfold ok <;> simp
def pick (way : Int) : List Eb → Eb
 | [] => ⟨0, 0⟩
 | e :: es => es.foldl (fun o x => if cmp x o = way then x else o) e
theorem pick_mem (way : Int) : ∀ (es : List Eb) (e : Eb), es.foldl (fun o x => if cmp x o = way then x else o) e = e ∨ es.foldl (fun o x => if cmp x o = way then x else o) e ∈ es
 | [], _ => .inl rfl
 | x :: es, e => by
   simp only [List.foldl_cons]
   rcases pick_mem way es (if cmp x e = way then x else e) with h | h
   · rw [h]; split
     · exact .inr (by simp)
     · exact .inl rfl
   · exact .inr (by simp [h])
end Eb
structure Es where
 lo : Eb
 hi : Eb
namespace Es
def neg (a : Es) : Es := ⟨a.hi.neg, a.lo.neg⟩
def add (a b : Es) : Es := ⟨a.lo.add b.lo, a.hi.add b.hi⟩
def prods (a b : Es) : List Eb := [a.lo.mul b.lo, a.lo.mul b.hi, a.hi.mul b.lo, a.hi.mul b.hi]
def mul (a b : Es) : Es := ⟨Eb.pick (-1) (prods a b), Eb.pick 1 (prods a b)⟩
def zero (a : Es) : Bool := decide (a.lo.sign ≤ 0) && decide (0 ≤ a.hi.sign)
end Es
structure Sk where
 lo : Int
 hi : Int
deriving DecidableEq
def fkq (k : Int) : Rat := (kz k : Rat) / ((2 ^ 1074 : Nat) : Rat)
def endE (k : Int) : Eb := if k = (infR : Int) then ⟨1, 0⟩ else if k = -(infR : Int) then ⟨-1, 0⟩ else ⟨0, fkq k⟩
theorem n06 (k : Int) : (endE k).ok := by
 unfold endE; split
 · exact .inr ⟨rfl, .inl rfl⟩
 · split
   · exact .inr ⟨rfl, .inr rfl⟩
   · exact .inl rfl
def Sk.set (s : Sk) : Es := ⟨endE s.lo, endE s.hi⟩
def Es.span (a : Es) : Sk := ⟨if a.lo.inf = 0 then g01 a.lo.x else -(infR : Int), if a.hi.inf = 0 then U02 a.hi.x else (infR : Int)⟩
def inK (k : Int) : Prop := -(infR : Int) ≤ k ∧ k ≤ (infR : Int)
theorem M04 (q : Rat) : inK (g01 q) := by
 have hd : 0 < q.den := by have := q.den_nz; omega
 have h1 := (I03 (n := q.num.natAbs) hd).lt
 have h2 := (W05 (n := q.num.natAbs) hd).le
 unfold g01 inK; split <;> omega
theorem X0d (q : Rat) : inK (U02 q) := by
 have hd : 0 < q.den := by have := q.den_nz; omega
 have h1 := (I03 (n := q.num.natAbs) hd).lt
 have h2 := (W05 (n := q.num.natAbs) hd).le
 unfold U02 inK; split <;> omega
structure Sk.ok (s : Sk) : Prop where
 lo : inK s.lo
 hi : inK s.hi
theorem W02 (a : Es) : a.span.ok := by
 refine ⟨?_, ?_⟩
 · unfold Es.span; dsimp only; split
   · exact M04 _
   · unfold inK; omega
 · unfold Es.span; dsimp only; split
   · exact X0d _
   · unfold inK; omega

def U64 (n : Int) : Prop := 0 ≤ n ∧ n < 18446744073709551616
theorem U64.nat {n : Int} (h : U64 n) : ∃ k : Nat, n = k ∧ k < 2 ^ 64 := by
 obtain ⟨h1, h2⟩ := h
 exact ⟨n.toNat, by omega, by omega⟩
def O07.u64 (x : O07) : Prop := U64 x.re.lo ∧ U64 x.re.hi ∧ U64 x.im.lo ∧ U64 x.im.hi
deriving instance DecidableEq for SpV
deriving instance DecidableEq for BoxV
def Sk.v (k : Sk) : SpV := ⟨t01 k.lo, t01 k.hi⟩
def Sk.neg (s : Sk) : Sk := ⟨-s.hi, -s.lo⟩
def Sk.meet (s t : Sk) : Sk := ⟨max s.lo t.lo, min s.hi t.hi⟩
def Sk.nonempty (s : Sk) : Bool := decide (s.lo ≤ s.hi)
def Sk.isIn (s t : Sk) : Bool := decide (t.lo ≤ s.lo) && decide (s.hi ≤ t.hi)
def Sk.has (s : Sk) (q : Rat) : Bool := decide ((endE s.lo).cmp ⟨0, q⟩ ≤ 0) && decide ((⟨0, q⟩ : Eb).cmp (endE s.hi) ≤ 0)
theorem Sk.neg_ok {s : Sk} (h : s.ok) : s.neg.ok := by
 have a := h.lo; have b := h.hi
 unfold inK at a b
 exact ⟨by unfold inK Sk.neg; dsimp only; omega, by unfold inK Sk.neg; dsimp only; omega⟩
def mkE (x y : Nat) : Int := if ¬ okW x ∨ ¬ okW y ∨ key x = (infR : Int) ∨ key y = -(infR : Int) then 1 else if key y < key x then 7 else 0
def Sk.nil : Sk := ⟨0, 0⟩
theorem E07 : inK 0 := by unfold inK infR; omega
theorem Sk.nil_ok : Sk.nil.ok := ⟨E07, E07⟩
theorem U0n : Sk.nil.v = SpV.mk 0 0 := rfl
def mkS (x y : Nat) : Sk := if mkE x y = 0 then ⟨key x, key y⟩ else Sk.nil
theorem m0n {x y : Nat} (h : mkE x y = 0) : okW x ∧ okW y ∧ key x ≤ key y := by
 unfold mkE at h
 split at h
 · simp at h
 · rename_i c
   split at h
   · simp at h
   · have c1 : okW x := Classical.byContradiction fun q => c (.inl q)
     have c2 : okW y := Classical.byContradiction fun q => c (.inr (.inl q))
     exact ⟨c1, c2, by omega⟩
theorem N0t {x : Nat} (h : okW x) : inK (key x) := by
 obtain ⟨h1, h2⟩ := h
 unfold inK key infR at *; split <;> omega
def Sk.proper (s : Sk) : Prop := s.lo ≤ s.hi ∧ s.lo ≠ (infR : Int) ∧ s.hi ≠ -(infR : Int)
theorem F0p {x y : Nat} (h : mkE x y = 0) : (mkS x y).proper := by
 have hle := (m0n h).2.2
 unfold mkS; rw [if_pos h]
 unfold mkE at h
 split at h
 · simp at h
 · rename_i c
   exact ⟨hle, fun e => c (.inr (.inr (.inl e))), fun e => c (.inr (.inr (.inr e)))⟩
theorem q0r (x y : Nat) : (mkS x y).ok := by
 unfold mkS; split
 · rename_i h
   obtain ⟨a, b, _⟩ := m0n h
   exact ⟨N0t a, N0t b⟩
 · exact Sk.nil_ok
theorem okK {k : Int} (h : inK k) : okW (t01 k) := O0s h.1 h.2
theorem keyK {k : Int} (h : inK k) : key (t01 k) = k := k0r h.1 h.2
theorem ltK {a b : Int} (ha : inK a) (hb : inK b) : (FloatKind.f64.format.order (t01 a) (t01 b) == some .lt) = decide (a < b) := by
 rw [M0t (okK ha) (okK hb), keyK ha, keyK hb]
structure Bk where
 re : Sk
 im : Sk
deriving DecidableEq
structure Bk.ok (b : Bk) : Prop where
 re : b.re.ok
 im : b.im.ok
def Bk.proper (b : Bk) : Prop := b.re.proper ∧ b.im.proper
def Bk.v (b : Bk) : BoxV := ⟨b.re.v, b.im.v⟩
def Bk.nil : Bk := ⟨Sk.nil, Sk.nil⟩
theorem Bk.nil_ok : Bk.nil.ok := ⟨Sk.nil_ok, Sk.nil_ok⟩
def mkBE (a b c d : Nat) : Int := if mkE a c = 1 ∨ mkE b d = 1 then 1 else if mkE a c ≠ 0 ∨ mkE b d ≠ 0 then 7 else 0
def mkB (a b c d : Nat) : Bk := if mkBE a b c d = 0 then ⟨mkS a c, mkS b d⟩ else Bk.nil
theorem A0v (a b c d : Nat) : (mkB a b c d).ok := by
 unfold mkB; split
 · exact ⟨q0r _ _, q0r _ _⟩
 · exact Bk.nil_ok
def Bk.mul (b c : Bk) : Bk :=
 ⟨((b.re.set.mul c.re.set).add (b.im.set.mul c.im.set).neg).span, ((b.re.set.mul c.im.set).add (b.im.set.mul c.re.set)).span⟩
def Bk.neg (b : Bk) : Bk := ⟨b.re.neg, b.im.neg⟩
def Bk.conj (b : Bk) : Bk := ⟨b.re, b.im.neg⟩
def Bk.isIn (b c : Bk) : Bool := b.re.isIn c.re && b.im.isIn c.im
def Bk.meets (b c : Bk) : Bool := (b.re.meet c.re).nonempty && (b.im.meet c.im).nonempty
def Bk.meet (b c : Bk) : Bk := if b.meets c then ⟨b.re.meet c.re, b.im.meet c.im⟩ else Bk.nil
def Bk.has (b : Bk) (z : Cq) : Bool := b.re.has z.re && b.im.has z.im

def X00 (a b : Eb) : Eb := if a.inf ≠ 0 ∨ b.inf ≠ 0 then ⟨0, 0⟩ else ⟨0, a.x / (a.x * a.x + b.x * b.x)⟩
def rowZ (y : Es) (a : Eb) : List Eb := if y.zero = true ∧ a.sign ≠ 0 then [X00 a (Eb.fin 0)] else []
def rowA (y : Es) (a : Eb) : List Eb := [X00 a y.lo, X00 a y.hi] ++ rowZ y a
def colB (x : Es) (b a : Eb) : List Eb := if b.inf = 0 ∧ b.sign ≠ 0 ∧ x.lo.cmp a ≤ 0 ∧ a.cmp x.hi ≤ 0 then [X00 a b] else []
def rowB (x : Es) (b : Eb) : List Eb := colB x b b ++ colB x b b.neg
def at2 (a b : Eb) : Nat → Eb
 | 0 => a
 | _ => b
def preA (x y : Es) : Nat → List Eb
 | 0 => []
 | 1 => rowA y x.lo
 | _ => rowA y x.lo ++ rowA y x.hi
def preB (x y : Es) : Nat → List Eb
 | 0 => preA x y 2
 | 1 => preA x y 2 ++ rowB x y.lo
 | _ => preA x y 2 ++ (rowB x y.lo ++ rowB x y.hi)
def e03 (x y : Es) : List Eb := preB x y 2
def Es.share (x y : Es) : Es := ⟨Eb.pick (-1) (e03 x y), Eb.pick 1 (e03 x y)⟩
theorem s0r (x y : Es) {i : Nat} (h : i < 2) : preA x y i ++ rowA y (at2 x.lo x.hi i) = preA x y (i + 1) := by
 rcases (by omega : i = 0 ∨ i = 1) with rfl | rfl
 · simp [preA, at2]
 · simp [preA, at2]
theorem t0r (x y : Es) {i : Nat} (h : i < 2) : preB x y i ++ rowB x (at2 y.lo y.hi i) = preB x y (i + 1) := by
 rcases (by omega : i = 0 ∨ i = 1) with rfl | rfl
 · simp [preB, at2]
 · simp [preB, at2]
def inA (y : Es) (a : Eb) : Nat → List Eb
 | 0 => []
 | 1 => [X00 a y.lo]
 | _ => [X00 a y.lo, X00 a y.hi]
theorem S0s (y : Es) (a : Eb) {j : Nat} (h : j < 2) : inA y a j ++ [X00 a (at2 y.lo y.hi j)] = inA y a (j + 1) := by
 rcases (by omega : j = 0 ∨ j = 1) with rfl | rfl <;> rfl
def inB (x : Es) (b : Eb) : Nat → List Eb
 | 0 => []
 | 1 => colB x b b
 | _ => colB x b b ++ colB x b b.neg
theorem T0s (x : Es) (b : Eb) {j : Nat} (h : j < 2) : inB x b j ++ colB x b (at2 b b.neg j) = inB x b (j + 1) := by
 rcases (by omega : j = 0 ∨ j = 1) with rfl | rfl
 · simp [inB, at2]
 · simp [inB, at2]
theorem U0s (y : Es) (a : Eb) : (rowZ y a).length ≤ 1 := by unfold rowZ; split <;> simp
theorem n0n (y : Es) (a : Eb) : (rowA y a).length ≤ 3 := by
 have := U0s y a
 unfold rowA; simp only [List.length_append, List.length_cons, List.length_nil]; omega
theorem d0d (x : Es) (b a : Eb) : (colB x b a).length ≤ 1 := by unfold colB; split <;> simp
theorem o0n (x : Es) (b : Eb) : (rowB x b).length ≤ 2 := by
 have h1 := d0d x b b; have h2 := d0d x b b.neg
 unfold rowB; simp only [List.length_append]; omega
theorem p0n (x y : Es) (i : Nat) : (preA x y i).length ≤ 6 := by
 have h1 := n0n y x.lo; have h2 := n0n y x.hi
 match i with
 | 0 => simp [preA]
 | 1 => simp only [preA]; omega
 | _ + 2 => simp only [preA, List.length_append]; omega
theorem q0n (x y : Es) (i : Nat) : (preB x y i).length ≤ 10 := by
 have h1 := o0n x y.lo; have h2 := o0n x y.hi; have h3 := p0n x y 2
 match i with
 | 0 => simp only [preB]; omega
 | 1 => simp only [preB, List.length_append]; omega
 | _ + 2 => simp only [preB, List.length_append]; omega
theorem w0u (y : Es) (a : Eb) (j : Nat) : (inA y a j).length ≤ 2 := by
 match j with
 | 0 => simp [inA]
 | 1 => simp [inA]
 | _ + 2 => simp [inA]
theorem x0u (x : Es) (b : Eb) (j : Nat) : (inB x b j).length ≤ 2 := by
 have h1 := d0d x b b; have h2 := d0d x b b.neg
 match j with
 | 0 => simp [inB]
 | 1 => simp only [inB]; omega
 | _ + 2 => simp only [inB, List.length_append]; omega
theorem D05 (x y : Es) : e03 x y ≠ [] := by
 simp [e03, preB, preA, rowA]

def Bk.clear (b : Bk) : Bool := !b.has Cq.zero
def Bk.invB (b : Bk) : Bk := ⟨(b.re.set.share b.im.set).span, (b.im.set.share b.re.set).neg.span⟩
def Bk.inv (b : Bk) : Bk := if b.clear then b.invB else Bk.nil
def Bk.invE (b : Bk) : Int := if b.clear then 0 else 3
theorem C0e (b : Bk) : b.inv.ok := by
 unfold Bk.inv; split
 · exact ⟨W02 _, W02 _⟩
 · exact Bk.nil_ok
def awB : Bk := ⟨⟨4607182418800017408, 4611686018427387904⟩, ⟨0, 4607182418800017408⟩⟩
def awP : Bk := ⟨⟨0, 4616189618054758400⟩, ⟨0, 4616189618054758400⟩⟩
theorem u0m : mkB 4607182418800017408 0 4611686018427387904 4607182418800017408 = awB ∧ mkBE 4607182418800017408 0 4611686018427387904 4607182418800017408 = 0 := by decide +kernel
theorem O0t : awB.mul awB = awP := by decide +kernel
theorem W0h : awB.clear = true ∧ awP.clear = false := by decide +kernel
theorem P0t : awB.invB.im.lo = -4602678819172646912 ∧ awB.invB.re.hi = 4607182418800017408 := by decide +kernel

namespace Eb
def LT (a b : Eb) : Prop := a.inf < b.inf ∨ (a.inf = 0 ∧ b.inf = 0 ∧ a.x < b.x)
theorem cmp_neg1 {a b : Eb} : cmp a b = -1 ↔ LT a b := by
 unfold cmp LT cmpZ cmpR
 by_cases h : a.inf ≠ 0 ∨ b.inf ≠ 0
 · rw [if_pos h]
   constructor
   · intro e
     left
     split at e
     · assumption
     · split at e <;> simp at e
   · rintro (e | ⟨e1, e2, _⟩)
     · rw [if_pos e]
     · exfalso; omega
 · rw [if_neg h]
   have h1 : a.inf = 0 := by omega
   have h2 : b.inf = 0 := by omega
   constructor
   · intro e
     refine .inr ⟨h1, h2, ?_⟩
     split at e
     · assumption
     · split at e <;> simp at e
   · rintro (e | ⟨_, _, e⟩)
     · exfalso; omega
     · rw [if_pos e]
theorem cmp_1 {a b : Eb} : cmp a b = 1 ↔ LT b a := by
 unfold cmp LT cmpZ cmpR
 by_cases h : a.inf ≠ 0 ∨ b.inf ≠ 0
 · rw [if_pos h]
   constructor
   · intro e
     left
     split at e
     · simp at e
     · split at e
       · simp at e
       · omega
   · rintro (e | ⟨e1, e2, _⟩)
     · rw [if_neg (by omega), if_neg (by omega)]
     · exfalso; omega
 · rw [if_neg h]
   have h1 : a.inf = 0 := by omega
   have h2 : b.inf = 0 := by omega
   constructor
   · intro e
     refine .inr ⟨h2, h1, ?_⟩
     split at e
     · simp at e
     · split at e
       · simp at e
       · grind
   · rintro (e | ⟨_, _, e⟩)
     · exfalso; omega
     · rw [if_neg (by grind), if_neg (by grind)]
theorem LT.trans {a b c : Eb} (h : LT a b) (k : LT b c) : LT a c := by
 unfold LT at *
 rcases h with h | ⟨h1, h2, h3⟩ <;> rcases k with k | ⟨k1, k2, k3⟩
 · left; omega
 · left; omega
 · left; omega
 · right; exact ⟨h1, k2, by grind⟩
theorem LT.weak {a b c : Eb} (h : LT a c) : LT a b ∨ LT b c := by
 unfold LT at *
 rcases h with h | ⟨h1, h2, h3⟩
 · by_cases q : a.inf < b.inf
   · exact .inl (.inl q)
   · exact .inr (.inl (by omega))
 · rcases Int.lt_trichotomy b.inf 0 with q | q | q
   · exact .inr (.inl (by omega))
   · by_cases p : a.x < b.x
     · exact .inl (.inr ⟨h1, q, p⟩)
     · exact .inr (.inr ⟨q, h2, by grind⟩)
   · exact .inl (.inl (by omega))
theorem LT.irrefl {a : Eb} : ¬ LT a a := by
 unfold LT; rintro (h | ⟨_, _, h⟩)
 · omega
 · grind
theorem LT.tri {a b : Eb} (ha : a.ok) (hb : b.ok) (h : ¬ LT a b) (k : ¬ LT b a) : a = b := by
 unfold LT at h k
 have h1 : a.inf = b.inf := by omega
 unfold ok at ha hb
 have h2 : a.x = b.x := by
  by_cases z : a.inf = 0
  · have z2 : b.inf = 0 := by omega
    have p : ¬ a.x < b.x := fun q => h (.inr ⟨z, z2, q⟩)
    have p2 : ¬ b.x < a.x := fun q => k (.inr ⟨z2, z, q⟩)
    grind
  · rcases ha with ha | ha
    · exact absurd ha z
    · rcases hb with hb | hb
      · exact absurd hb (by omega)
      · rw [ha.1, hb.1]
 cases a; cases b; simp at h1 h2; rw [h1, h2]
def W (way : Int) (a b : Eb) : Prop := if way = 1 then LT b a else LT a b
theorem B0v {way : Int} (hw : way = 1 ∨ way = -1) {a b : Eb} : cmp a b = way ↔ W way a b := by
 rcases hw with rfl | rfl
 · unfold W; rw [if_pos rfl]; exact cmp_1
 · unfold W; rw [if_neg (by decide)]; exact cmp_neg1
theorem W.trans {way : Int} {a b c : Eb} (h : W way a b) (k : W way b c) : W way a c := by
 unfold W at *
 split at h
 · rename_i e; rw [if_pos e] at k ⊢; exact k.trans h
 · rename_i e; rw [if_neg e] at k ⊢; exact h.trans k
theorem W.weak {way : Int} {a b c : Eb} (h : W way a c) : W way a b ∨ W way b c := by
 unfold W at *
 split at h
 · rename_i e; rw [if_pos e, if_pos e]; exact (LT.weak (b := b) h).symm
 · rename_i e; rw [if_neg e, if_neg e]; exact LT.weak h
theorem W.irrefl {way : Int} {a : Eb} : ¬ W way a a := by unfold W; split <;> exact LT.irrefl
theorem W.tri {way : Int} {a b : Eb} (ha : a.ok) (hb : b.ok) (h : ¬ W way a b) (k : ¬ W way b a) : a = b := by
 unfold W at h k
 split at h
 · rename_i e; rw [if_pos e] at k; exact LT.tri ha hb k h
 · rename_i e; rw [if_neg e] at k; exact LT.tri ha hb h k
theorem l0g {way : Int} (hw : way = 1 ∨ way = -1) : ∀ (es : List Eb) (o : Eb), ¬ W way o (es.foldl (fun o x => if cmp x o = way then x else o) o) ∧ ∀ e ∈ es, ¬ W way e (es.foldl (fun o x => if cmp x o = way then x else o) o)
 | [], o => ⟨W.irrefl, by simp⟩
 | x :: es, o => by
   simp only [List.foldl_cons]
   have ih := l0g hw es (if cmp x o = way then x else o)
   by_cases h : cmp x o = way
   · rw [if_pos h] at ih ⊢
     have hx := (B0v hw).1 h
     refine ⟨fun g => ih.1 (hx.trans g), fun e he => ?_⟩
     rcases List.mem_cons.1 he with rfl | he
     · exact ih.1
     · exact ih.2 e he
   · rw [if_neg h] at ih ⊢
     refine ⟨ih.1, fun e he => ?_⟩
     rcases List.mem_cons.1 he with rfl | he
     · intro g
       have hxo : ¬ W way e o := fun q2 => h ((B0v hw).2 q2)
       exact (W.weak (b := o) g).elim hxo ih.1
     · exact ih.2 e he
theorem pick_first {way : Int} (hw : way = 1 ∨ way = -1) {es : List Eb} : ∀ e ∈ es, ¬ W way e (pick way es) := by
 cases es with
 | nil => simp
 | cons o es =>
   intro e he
   have := l0g hw es o
   rcases List.mem_cons.1 he with rfl | he
   · exact this.1
   · exact this.2 e he
theorem pick_in {way : Int} {es : List Eb} (h : es ≠ []) : pick way es ∈ es := by
 cases es with
 | nil => exact absurd rfl h
 | cons o es =>
   rcases pick_mem way es o with g | g
   · show List.foldl _ o es ∈ _; rw [g]; simp
   · show List.foldl _ o es ∈ _; exact List.mem_cons_of_mem _ g
theorem pick_ext {way : Int} (hw : way = 1 ∨ way = -1) {es es' : List Eb} (hn : es ≠ []) (hok : ∀ e ∈ es, e.ok) (h : ∀ e, e ∈ es ↔ e ∈ es') : pick way es = pick way es' := by
 have hn' : es' ≠ [] := by
  intro e0
  have := (h _).1 (pick_in (way := way) hn)
  rw [e0] at this; simp at this
 have m1 := pick_in (way := way) hn
 have m2 := (h _).2 (pick_in (way := way) hn')
 exact W.tri (way := way) (hok _ m1) (hok _ m2) (pick_first hw _ ((h _).1 m1)) (pick_first hw _ m2)
theorem neg_neg (a : Eb) : a.neg.neg = a := by
 cases a; unfold neg; simp
theorem LT_neg {a b : Eb} : LT a.neg b.neg ↔ LT b a := by
 unfold LT neg; dsimp only
 constructor
 · rintro (h | ⟨h1, h2, h3⟩)
   · left; omega
   · right; exact ⟨by omega, by omega, by grind⟩
 · rintro (h | ⟨h1, h2, h3⟩)
   · left; omega
   · right; exact ⟨by omega, by omega, by grind⟩
theorem pick_neg {way : Int} (hw : way = 1 ∨ way = -1) {es : List Eb} (hn : es ≠ []) (hok : ∀ e ∈ es, e.ok) : pick way (es.map neg) = (pick (-way) es).neg := by
 have hw' : -way = 1 ∨ -way = -1 := by omega
 have hn' : es.map neg ≠ [] := by simpa using hn
 have m1 := pick_in (way := way) hn'
 obtain ⟨u, hu, hu'⟩ := List.mem_map.1 m1
 have m2 := pick_in (way := -way) hn
 have f1 := pick_first hw (es := es.map neg) _ (List.mem_map.2 ⟨_, m2, rfl⟩)
 have f2 := pick_first hw' (es := es) _ hu
 rw [← hu'] at f1 ⊢
 congr 1
 have flip : ∀ {a b : Eb}, W way a.neg b.neg ↔ W (-way) a b := by
  intro a b
  rcases hw with rfl | rfl
  · unfold W; rw [if_pos rfl, if_neg (by decide)]; exact LT_neg
  · unfold W; rw [if_neg (by decide), if_pos (by decide)]; exact LT_neg
 rw [flip] at f1
 exact W.tri (way := -way) (hok _ hu) (hok _ m2) f2 f1
theorem neg_add (a b : Eb) : (a.add b).neg = a.neg.add b.neg := by
 have h1 : a.neg.inf = -a.inf := rfl
 have h2 : b.neg.inf = -b.inf := rfl
 by_cases c : a.inf = 0
 · have c' : ¬ a.inf ≠ 0 := fun h => h c
   have c2 : ¬ a.neg.inf ≠ 0 := fun h => h (by rw [h1]; omega)
   by_cases d : b.inf = 0
   · have d' : ¬ b.inf ≠ 0 := fun h => h d
     have d2 : ¬ b.neg.inf ≠ 0 := fun h => h (by rw [h2]; omega)
     unfold add
     rw [if_neg c', if_neg c2, if_neg d', if_neg d2]
     show (⟨-0, -(a.x + b.x)⟩ : Eb) = ⟨0, -a.x + -b.x⟩
     congr 1; grind
   · have d2 : b.neg.inf ≠ 0 := by rw [h2]; omega
     unfold add
     rw [if_neg c', if_neg c2, if_pos d, if_pos d2]
 · have c2 : a.neg.inf ≠ 0 := by rw [h1]; omega
   unfold add
   rw [if_pos c, if_pos c2]
theorem cmp_neg (a b : Eb) : cmp a.neg b.neg = -cmp a b := by
 have r1 := cmp_range a.neg b.neg
 have r2 := cmp_range a b
 have e1 : cmp a.neg b.neg = -1 ↔ cmp a b = 1 := by rw [cmp_neg1, cmp_1, LT_neg]
 have e2 : cmp a.neg b.neg = 1 ↔ cmp a b = -1 := by rw [cmp_1, cmp_neg1, LT_neg]
 omega
theorem sign_neg (a : Eb) : a.neg.sign = -a.sign := by
 have : fin 0 = (fin 0).neg := by unfold fin neg; simp
 show cmp a.neg (fin 0) = -cmp a (fin 0)
 conv => lhs; rw [this]
 exact cmp_neg a _
theorem mul_neg (a b : Eb) : a.neg.mul b = (a.mul b).neg := by
 unfold mul
 have h1 : a.neg.inf = -a.inf := rfl
 by_cases c : a.inf = 0 ∧ b.inf = 0
 · rw [if_pos c, if_pos ⟨by omega, c.2⟩]
   show (⟨0, -a.x * b.x⟩ : Eb) = ⟨-0, -(a.x * b.x)⟩
   congr 1; grind
 · rw [if_neg c, if_neg (fun g => c ⟨by omega, g.2⟩), sign_neg]
   show (⟨-a.sign * b.sign, 0⟩ : Eb) = ⟨-(a.sign * b.sign), -0⟩
   congr 1
   · rw [Int.neg_mul]
theorem mul_comm (a b : Eb) : a.mul b = b.mul a := by
 unfold mul
 by_cases c : a.inf = 0 ∧ b.inf = 0
 · rw [if_pos c, if_pos ⟨c.2, c.1⟩]; congr 1; grind
 · rw [if_neg c, if_neg (fun g => c ⟨g.2, g.1⟩)]; congr 1; exact Int.mul_comm _ _
end Eb
theorem Es.neg_neg (a : Es) : a.neg.neg = a := by
 cases a; unfold Es.neg; simp [Eb.neg_neg]
theorem Es.neg_add (a b : Es) : (a.add b).neg = a.neg.add b.neg := by
 unfold Es.neg Es.add; dsimp only; rw [Eb.neg_add, Eb.neg_add]
theorem N02 (a b : Es) : ∀ e ∈ Es.prods a b, e.ok := by
 intro e he
 simp only [Es.prods, List.mem_cons, List.not_mem_nil, or_false] at he
 rcases he with rfl | rfl | rfl | rfl <;> exact Eb.mul_ok _ _
theorem k02 (a b : Es) : Es.prods a b ≠ [] := by simp [Es.prods]
theorem Es.mul_comm (a b : Es) : a.mul b = b.mul a := by
 have h : ∀ e, e ∈ Es.prods a b ↔ e ∈ Es.prods b a := by
  intro e
  simp only [Es.prods, List.mem_cons, List.not_mem_nil, or_false, Eb.mul_comm b.lo, Eb.mul_comm b.hi]
  constructor
  · rintro (h | h | h | h)
    · exact .inl h
    · exact .inr (.inr (.inl h))
    · exact .inr (.inl h)
    · exact .inr (.inr (.inr h))
  · rintro (h | h | h | h)
    · exact .inl h
    · exact .inr (.inr (.inl h))
    · exact .inr (.inl h)
    · exact .inr (.inr (.inr h))
 unfold Es.mul
 rw [Eb.pick_ext (.inr rfl) (k02 a b) (N02 a b) h, Eb.pick_ext (.inl rfl) (k02 a b) (N02 a b) h]
theorem Es.neg_mul (a b : Es) : a.neg.mul b = (a.mul b).neg := by
 have h : ∀ e, e ∈ Es.prods a.neg b ↔ e ∈ (Es.prods a b).map Eb.neg := by
  intro e
  simp only [Es.prods, Es.neg, List.map_cons, List.map_nil, List.mem_cons, List.not_mem_nil, or_false, Eb.mul_neg]
  constructor
  · rintro (h | h | h | h)
    · exact .inr (.inr (.inl h))
    · exact .inr (.inr (.inr h))
    · exact .inl h
    · exact .inr (.inl h)
  · rintro (h | h | h | h)
    · exact .inr (.inr (.inl h))
    · exact .inr (.inr (.inr h))
    · exact .inl h
    · exact .inr (.inl h)
 have p1 := Eb.pick_ext (way := -1) (.inr rfl) (k02 a.neg b) (N02 a.neg b) h
 have p2 := Eb.pick_ext (way := 1) (.inl rfl) (k02 a.neg b) (N02 a.neg b) h
 rw [Eb.pick_neg (.inr rfl) (k02 a b) (N02 a b)] at p1
 rw [Eb.pick_neg (.inl rfl) (k02 a b) (N02 a b)] at p2
 unfold Es.mul; rw [p1, p2]; rfl
theorem Es.mul_neg (a b : Es) : a.mul b.neg = (a.mul b).neg := by rw [Es.mul_comm, Es.neg_mul, Es.mul_comm]
theorem G0p (d : Nat) : D07 0 d = 0 := rfl
theorem W0s (d : Nat) : upK 0 d = 0 := rfl
theorem j07 (q : Rat) : g01 (-q) = -U02 q := by
 unfold g01 U02
 have hn : (-q).num = -q.num := rfl
 have hd : (-q).den = q.den := rfl
 rw [hn, hd]
 rcases Int.lt_trichotomy q.num 0 with h | h | h
 · rw [if_pos (by omega), if_neg (by omega), Int.natAbs_neg, Int.neg_neg]
 · rw [h]; rw [if_pos (by decide), if_pos (by decide)]; show ((D07 0 q.den : Nat) : Int) = -((upK 0 q.den : Nat) : Int); rw [G0p, W0s]; rfl
 · rw [if_neg (by omega), if_pos (by omega), Int.natAbs_neg]
theorem H0p (q : Rat) : U02 (-q) = -g01 q := by
 have := j07 (-q)
 rw [Rat.neg_neg] at this
 omega
theorem u06 (a : Es) : a.neg.span = a.span.neg := by
 unfold Es.span Es.neg Sk.neg Eb.neg
 dsimp only
 rw [j07, H0p]
 congr 1
 · by_cases h : a.hi.inf = 0
   · rw [if_pos (by omega), if_pos h]
   · rw [if_neg (by omega), if_neg h]
 · by_cases h : a.lo.inf = 0
   · rw [if_pos (by omega), if_pos h]
   · rw [if_neg (by omega), if_neg h, Int.neg_neg]
theorem y0u (k : Int) : fkq (-k) = -fkq k := by
 unfold fkq; rw [f0r, Rat.intCast_neg, Rat.div_def, Rat.div_def, Rat.neg_mul]
theorem a03 (k : Int) : endE (-k) = (endE k).neg := by
 have h0 : (infR : Int) ≠ 0 := by unfold infR; decide
 unfold endE
 by_cases h : k = (infR : Int)
 · rw [if_neg (by omega), if_pos (by omega), if_pos h]; rfl
 · by_cases g : k = -(infR : Int)
   · rw [if_pos (by omega), if_neg h, if_pos g]; rfl
   · rw [if_neg (by omega), if_neg (by omega), if_neg h, if_neg g, y0u]; rfl
theorem X02 (s : Sk) : s.neg.set = s.set.neg := by
 unfold Sk.set Sk.neg Es.neg; dsimp only; rw [a03, a03]
theorem N07 (a b : Eb) : Eb.cmp b a = -Eb.cmp a b := by
 have r1 := Eb.cmp_range a b
 have r2 := Eb.cmp_range b a
 have e1 : Eb.cmp a b = -1 ↔ Eb.cmp b a = 1 := by rw [Eb.cmp_neg1, Eb.cmp_1]
 have e2 : Eb.cmp a b = 1 ↔ Eb.cmp b a = -1 := by rw [Eb.cmp_1, Eb.cmp_neg1]
 omega
theorem E05 (a b : Eb) : X00 a.neg b = (X00 a b).neg := by
 have h : a.neg.inf = -a.inf := rfl
 unfold X00
 by_cases c : a.inf ≠ 0 ∨ b.inf ≠ 0
 · rw [if_pos c, if_pos (by rw [h]; omega)]; unfold Eb.neg; simp
 · rw [if_neg c, if_neg (by rw [h]; omega)]
   show (⟨0, -a.x / (-a.x * -a.x + b.x * b.x)⟩ : Eb) = ⟨-0, -(a.x / (a.x * a.x + b.x * b.x))⟩
   have : -a.x * -a.x = a.x * a.x := by grind
   rw [this, Rat.div_def, Rat.div_def, Rat.neg_mul]; rfl
theorem O0a (a b : Eb) : (X00 a b).ok := by unfold X00; split <;> exact .inl rfl
theorem Es.zero_neg (y : Es) : y.neg.zero = y.zero := by
 unfold Es.zero Es.neg; dsimp only
 rw [Eb.sign_neg, Eb.sign_neg, Bool.and_comm]
 congr 1 <;> (apply decide_eq_decide.2; omega)
theorem I0p (y : Es) (a : Eb) : rowZ y a.neg = (rowZ y a).map Eb.neg := by
 unfold rowZ; rw [Eb.sign_neg]
 by_cases c : y.zero = true ∧ a.sign ≠ 0
 · rw [if_pos c, if_pos ⟨c.1, by omega⟩, E05]; rfl
 · rw [if_neg c, if_neg (fun h => c ⟨h.1, by omega⟩)]; rfl
theorem m0g (x : Es) (b a : Eb) : colB x.neg b a.neg = (colB x b a).map Eb.neg := by
 unfold colB Es.neg; dsimp only
 rw [Eb.cmp_neg, Eb.cmp_neg, E05]
 have h1 := N07 x.hi a
 have h2 := N07 x.lo a
 by_cases c : b.inf = 0 ∧ b.sign ≠ 0 ∧ x.lo.cmp a ≤ 0 ∧ a.cmp x.hi ≤ 0
 · rw [if_pos c, if_pos ⟨c.1, c.2.1, by omega, by omega⟩]; rfl
 · rw [if_neg c, if_neg (fun h => c ⟨h.1, h.2.1, by omega, by omega⟩)]; rfl
theorem Z04 (x y : Es) (e : Eb) : e ∈ e03 x y ↔ (e ∈ rowA y x.lo ∨ e ∈ rowA y x.hi) ∨ e ∈ rowB x y.lo ∨ e ∈ rowB x y.hi := by
 simp only [e03, preB, preA, List.mem_append]
theorem F06 (y : Es) (a e : Eb) : e ∈ rowA y a ↔ e = X00 a y.lo ∨ e = X00 a y.hi ∨ e ∈ rowZ y a := by
 simp only [rowA, List.cons_append, List.nil_append, List.mem_cons]
theorem f09 (x : Es) (b e : Eb) : e ∈ rowB x b ↔ e ∈ colB x b b ∨ e ∈ colB x b b.neg := by simp only [rowB, List.mem_append]
theorem k07 (x y : Es) : ∀ e ∈ e03 x y, e.ok := by
 intro e he
 have hz : ∀ {y a}, e ∈ rowZ y a → e.ok := by
  intro y a h; unfold rowZ at h; split at h
  · simp at h; subst h; exact O0a _ _
  · simp at h
 have hb : ∀ {x b a}, e ∈ colB x b a → e.ok := by
  intro x b a h; unfold colB at h; split at h
  · simp at h; subst h; exact O0a _ _
  · simp at h
 have ha : ∀ {y a}, e ∈ rowA y a → e.ok := by
  intro y a h; rw [F06] at h
  rcases h with rfl | rfl | h
  · exact O0a _ _
  · exact O0a _ _
  · exact hz h
 have hB : ∀ {x b}, e ∈ rowB x b → e.ok := by
  intro x b h; rw [f09] at h
  rcases h with h | h <;> exact hb h
 rw [Z04] at he
 rcases he with (h | h) | h | h
 · exact ha h
 · exact ha h
 · exact hB h
 · exact hB h
theorem X0h {e : Eb} {l : List Eb} : e ∈ l.map Eb.neg ↔ e.neg ∈ l := by
 constructor
 · intro h
   obtain ⟨u, hu, rfl⟩ := List.mem_map.1 h
   rw [Eb.neg_neg]; exact hu
 · intro h; exact List.mem_map.2 ⟨_, h, Eb.neg_neg e⟩
theorem w0m (x y : Es) : x.neg.share y = (x.share y).neg := by
 have ng : ∀ {e u : Eb}, e = u.neg ↔ e.neg = u := by
  intro e u; constructor
  · rintro rfl; exact Eb.neg_neg u
  · rintro rfl; exact (Eb.neg_neg e).symm
 have hA : ∀ a e, e ∈ rowA y a.neg ↔ e.neg ∈ rowA y a := by
  intro a e
  rw [F06, F06, I0p, E05, E05, X0h, ng, ng]
 have hB : ∀ b e, e ∈ rowB x.neg b ↔ e.neg ∈ rowB x b := by
  intro b e
  rw [f09, f09]
  have e1 : colB x.neg b b = (colB x b b.neg).map Eb.neg := by
   have := m0g x b b.neg
   rw [Eb.neg_neg] at this; exact this
  rw [e1, m0g, X0h, X0h]; exact Or.comm
 have h : ∀ e, e ∈ e03 x.neg y ↔ e ∈ (e03 x y).map Eb.neg := by
  intro e
  rw [X0h, Z04, Z04, hB, hB]
  show ((e ∈ rowA y x.hi.neg ∨ e ∈ rowA y x.lo.neg) ∨ _) ↔ _
  rw [hA, hA]
  constructor
  · rintro ((h | h) | h)
    · exact .inl (.inr h)
    · exact .inl (.inl h)
    · exact .inr h
  · rintro ((h | h) | h)
    · exact .inl (.inr h)
    · exact .inl (.inl h)
    · exact .inr h
 have p1 := Eb.pick_ext (way := -1) (.inr rfl) (D05 x.neg y) (k07 x.neg y) h
 have p2 := Eb.pick_ext (way := 1) (.inl rfl) (D05 x.neg y) (k07 x.neg y) h
 rw [Eb.pick_neg (.inr rfl) (D05 x y) (k07 x y)] at p1
 rw [Eb.pick_neg (.inl rfl) (D05 x y) (k07 x y)] at p2
 unfold Es.share; rw [p1, p2]; rfl
def Bk.add (b c : Bk) : Bk := ⟨(b.re.set.add c.re.set).span, (b.im.set.add c.im.set).span⟩
def Bk.sub (b c : Bk) : Bk := ⟨(b.re.set.add c.re.set.neg).span, (b.im.set.add c.im.set.neg).span⟩
theorem Eb.add_comm {a b : Eb} (h : a.inf ≠ 0 → b.inf ≠ 0 → a = b) : a.add b = b.add a := by
 unfold Eb.add
 by_cases c : a.inf ≠ 0
 · by_cases d : b.inf ≠ 0
   · rw [h c d]
   · rw [if_pos c, if_neg d, if_pos c]
 · by_cases d : b.inf ≠ 0
   · rw [if_neg c, if_pos d, if_pos d]
   · rw [if_neg c, if_neg d, if_neg d, if_neg c]; congr 1; grind
theorem Y0h {k : Int} (h : k ≠ (infR : Int)) (h0 : (endE k).inf ≠ 0) : endE k = ⟨-1, 0⟩ := by
 unfold endE at h0 ⊢
 rw [if_neg h] at h0 ⊢
 split at h0
 · rename_i g; rw [if_pos g]
 · exact absurd rfl h0
theorem Z0h {k : Int} (h : k ≠ -(infR : Int)) (h0 : (endE k).inf ≠ 0) : endE k = ⟨1, 0⟩ := by
 unfold endE at h0 ⊢
 split at h0
 · rename_i g; rw [if_pos g]
 · exact absurd rfl h0
theorem Sk.add_comm {s t : Sk} (hs : s.proper) (ht : t.proper) : s.set.add t.set = t.set.add s.set := by
 have h1 : (endE s.lo).add (endE t.lo) = (endE t.lo).add (endE s.lo) := Eb.add_comm fun p q => by rw [Y0h hs.2.1 p, Y0h ht.2.1 q]
 have h2 : (endE s.hi).add (endE t.hi) = (endE t.hi).add (endE s.hi) := Eb.add_comm fun p q => by rw [Z0h hs.2.2 p, Z0h ht.2.2 q]
 unfold Es.add Sk.set; dsimp only
 rw [h1, h2]
theorem Bk.add_comm {b c : Bk} (hb : b.proper) (hc : c.proper) : b.add c = c.add b := by
 unfold Bk.add; rw [Sk.add_comm hb.1 hc.1, Sk.add_comm hb.2 hc.2]
theorem Bk.sub_eq (b c : Bk) : b.sub c = b.add c.neg := by
 unfold Bk.sub Bk.add Bk.neg; dsimp only; rw [X02, X02]
theorem Sk.neg_neg (s : Sk) : s.neg.neg = s := by cases s; unfold Sk.neg; simp
theorem Bk.neg_neg (b : Bk) : b.neg.neg = b := by cases b; unfold Bk.neg; dsimp only; rw [Sk.neg_neg, Sk.neg_neg]
theorem Bk.neg_mul (b c : Bk) : b.neg.mul c = (b.mul c).neg := by
 unfold Bk.mul Bk.neg; dsimp only
 rw [X02, X02, Es.neg_mul, Es.neg_mul, Es.neg_mul, Es.neg_mul, ← Es.neg_add, ← Es.neg_add, u06, u06]
theorem Eb.zero_neg : (⟨0, 0⟩ : Eb).neg = ⟨0, 0⟩ := by unfold Eb.neg; simp
theorem Sk.has_neg (s : Sk) : s.neg.has 0 = s.has 0 := by
 unfold Sk.has Sk.neg; dsimp only
 have e1 : (endE (-s.hi)).cmp ⟨0, 0⟩ = -((endE s.hi).cmp ⟨0, 0⟩) := by
  have := Eb.cmp_neg (endE s.hi) ⟨0, 0⟩
  rw [Eb.zero_neg, ← a03] at this; exact this
 have e2 : (⟨0, 0⟩ : Eb).cmp (endE (-s.lo)) = -((⟨0, 0⟩ : Eb).cmp (endE s.lo)) := by
  have := Eb.cmp_neg ⟨0, 0⟩ (endE s.lo)
  rw [Eb.zero_neg, ← a03] at this; exact this
 have a1 := N07 (endE s.hi) ⟨0, 0⟩
 have a2 := N07 (endE s.lo) ⟨0, 0⟩
 rw [e1, e2, Bool.and_comm]
 have d1 : decide (-((⟨0, 0⟩ : Eb).cmp (endE s.lo)) ≤ 0) = decide ((endE s.lo).cmp ⟨0, 0⟩ ≤ 0) := decide_eq_decide.2 (by omega)
 have d2 : decide (-((endE s.hi).cmp ⟨0, 0⟩) ≤ 0) = decide ((⟨0, 0⟩ : Eb).cmp (endE s.hi) ≤ 0) := decide_eq_decide.2 (by omega)
 rw [d1, d2]
theorem Bk.add_ok (b c : Bk) : (b.add c).ok := ⟨W02 _, W02 _⟩
theorem Bk.neg_ok {b : Bk} (h : b.ok) : b.neg.ok := ⟨Sk.neg_ok h.re, Sk.neg_ok h.im⟩
theorem b0q {b : Bk} (h : b.ok) : b.conj.ok := ⟨h.re, Sk.neg_ok h.im⟩
structure Es.pr (a : Es) : Prop where
 lo : a.lo.inf ≤ 0
 hi : 0 ≤ a.hi.inf
 klo : a.lo.ok
 khi : a.hi.ok
theorem Es.pr.neg {a : Es} (h : a.pr) : a.neg.pr :=
 ⟨by show -a.hi.inf ≤ 0; have := h.hi; omega, by show 0 ≤ -a.lo.inf; have := h.lo; omega, Eb.neg_ok h.khi, Eb.neg_ok h.klo⟩
theorem e05 {a : Eb} (h : a.ok) : a.inf = 0 ∨ a.inf = 1 ∨ a.inf = -1 := by
 rcases h with h | ⟨_, h⟩
 · exact .inl h
 · exact .inr h
theorem k09 {a : Eb} (_ : a.inf ≠ 0) : (a.inf < 0 → a.sign = -1) ∧ (0 < a.inf → a.sign = 1) := by
 refine ⟨fun g => Eb.cmp_neg1.2 (.inl g), fun g => Eb.cmp_1.2 (.inl g)⟩
theorem Q06 {a b : Eb} (h : 0 < (a.mul b).inf) : (a.inf ≠ 0 ∨ b.inf ≠ 0) ∧ a.sign * b.sign = 1 := by
 unfold Eb.mul at h
 by_cases c : a.inf = 0 ∧ b.inf = 0
 · rw [if_pos c] at h; exact absurd h (Int.lt_irrefl 0)
 · rw [if_neg c] at h
   have h : 0 < a.sign * b.sign := h
   refine ⟨by omega, ?_⟩
   rcases Eb.cmp_range a (Eb.fin 0) with p | p | p <;> rcases Eb.cmp_range b (Eb.fin 0) with q | q | q <;>
    (have p' : a.sign = _ := p
     have q' : b.sign = _ := q
     rw [p', q'] at h ⊢; revert h; decide)
theorem F0c {a b : Es} (ha : a.pr) (hb : b.pr) (h1 : a.lo.inf ≠ 0) : ¬ (0 < (a.lo.mul b.lo).inf ∧ 0 < (a.lo.mul b.hi).inf ∧ 0 < (a.hi.mul b.hi).inf) := by
 rintro ⟨_, h2, h3⟩
 have s1 : a.lo.sign = -1 := (k09 h1).1 (by have := ha.lo; omega)
 have m2 := Q06 h2
 have m3 := Q06 h3
 have s2 : b.hi.sign = -1 := by have := m2.2; rw [s1] at this; omega
 have z2 : b.hi.inf = 0 := by
  rcases Int.lt_trichotomy b.hi.inf 0 with q | q | q
  · have := hb.hi; omega
  · exact q
  · have := (k09 (a := b.hi) (by omega)).2 q; omega
 have z3 : a.hi.inf ≠ 0 := by
  rcases m3.1 with q | q
  · exact q
  · exact absurd z2 q
 have s3 : a.hi.sign = 1 := (k09 z3).2 (by have := ha.hi; omega)
 have := m3.2
 rw [s3, s2] at this; exact absurd this (by decide)
theorem S0k {a b : Es} (ha : a.pr) (hb : b.pr) : (a.mul b).lo.inf ≤ 0 := by
 refine Int.not_lt.1 fun hp => ?_
 have f := Eb.pick_first (way := -1) (.inr rfl) (es := Es.prods a b)
 have big : ∀ e ∈ Es.prods a b, 0 < e.inf := by
  intro e he
  refine Int.not_le.1 fun g => f e he ?_
  unfold Eb.W; rw [if_neg (by decide)]
  exact .inl (by
   have : 0 < (Eb.pick (-1) (Es.prods a b)).inf := hp
   omega)
 have m1 : 0 < (a.lo.mul b.lo).inf := big _ (by simp [Es.prods])
 have m2 : 0 < (a.lo.mul b.hi).inf := big _ (by simp [Es.prods])
 have m3 : 0 < (a.hi.mul b.lo).inf := big _ (by simp [Es.prods])
 have m4 : 0 < (a.hi.mul b.hi).inf := big _ (by simp [Es.prods])
 rcases (Q06 m1).1 with q | q
 · exact F0c ha hb q ⟨m1, m2, m4⟩
 · exact F0c hb ha q ⟨by rw [Eb.mul_comm]; exact m1, by rw [Eb.mul_comm]; exact m3, by rw [Eb.mul_comm]; exact m4⟩
theorem Es.pr.mul {a b : Es} (ha : a.pr) (hb : b.pr) : (a.mul b).pr := by
 refine ⟨S0k ha hb, ?_, N02 a b _ (Eb.pick_in (k02 a b)), N02 a b _ (Eb.pick_in (k02 a b))⟩
 have := S0k ha.neg hb
 rw [Es.neg_mul] at this
 have : -(a.mul b).hi.inf ≤ 0 := this
 omega
theorem Es.add_comm {a b : Es} (ha : a.pr) (hb : b.pr) : a.add b = b.add a := by
 have h1 : a.lo.add b.lo = b.lo.add a.lo := Eb.add_comm fun p q => by
  have := ha.lo; have := hb.lo
  have r1 := e05 ha.klo; have r2 := e05 hb.klo
  exact Eb.LT.tri ha.klo hb.klo (by rintro (h | ⟨h, _⟩) <;> omega) (by rintro (h | ⟨h, _⟩) <;> omega)
 have h2 : a.hi.add b.hi = b.hi.add a.hi := Eb.add_comm fun p q => by
  have := ha.hi; have := hb.hi
  have r1 := e05 ha.khi; have r2 := e05 hb.khi
  exact Eb.LT.tri ha.khi hb.khi (by rintro (h | ⟨h, _⟩) <;> omega) (by rintro (h | ⟨h, _⟩) <;> omega)
 unfold Es.add; rw [h1, h2]
theorem Sk.proper.pr {s : Sk} (h : s.proper) : s.set.pr := by
 refine ⟨?_, ?_, n06 _, n06 _⟩
 · show (endE s.lo).inf ≤ 0
   by_cases c : (endE s.lo).inf = 0
   · omega
   · rw [Y0h h.2.1 c]; decide
 · show 0 ≤ (endE s.hi).inf
   by_cases c : (endE s.hi).inf = 0
   · omega
   · rw [Z0h h.2.2 c]; decide
theorem Bk.mul_comm {b c : Bk} (hb : b.proper) (hc : c.proper) : b.mul c = c.mul b := by
 unfold Bk.mul
 rw [Es.mul_comm b.re.set c.re.set, Es.mul_comm b.im.set c.im.set, Es.mul_comm b.re.set c.im.set, Es.mul_comm b.im.set c.re.set,
  Es.add_comm (hc.2.pr.mul hb.1.pr) (hc.1.pr.mul hb.2.pr)]

theorem mm (a b c d : Int) : max a b ≤ min c d ↔ (a ≤ c ∧ b ≤ c) ∧ a ≤ d ∧ b ≤ d := by omega

theorem Q0t (k : Nat) : ((2 ^ k : Nat) : Rat) ≠ 0 := Y00 (by have : 0 < 2 ^ k := Nat.pow_pos (by omega); omega)
theorem s0n (k : Nat) : (0 : Rat) < ((2 ^ k : Nat) : Rat) := by
 have : 0 < 2 ^ k := Nat.pow_pos (by omega)
 exact_mod_cast this
theorem z0u {a : Int} {D : Nat} {q : Rat} (hD : D ≠ 0) : (a : Rat) / (D : Rat) < q ↔ a * (q.den : Int) < q.num * (D : Int) := by
 have h1 : q = (q.num : Rat) / (q.den : Rat) := by rw [← Rat.mkRat_eq_div]; exact (Rat.mkRat_self q).symm
 have hd : (0 : Rat) < (q.den : Rat) := by have : 0 < q.den := by have := q.den_nz; omega
                                           exact_mod_cast this
 have hD' : (0 : Rat) < (D : Rat) := by have : 0 < D := by omega
                                        exact_mod_cast this
 have e1 : (a : Rat) / (D : Rat) < q ↔ (a : Rat) * (q.den : Rat) < (q.num : Rat) * (D : Rat) := by
  conv => lhs; rw [h1]
  rw [Rat.div_lt_iff hD', Rat.div_def, Rat.mul_assoc, Rat.mul_comm (q.den : Rat)⁻¹, ← Rat.mul_assoc, ← Rat.div_def, Rat.lt_div_iff hd]
 rw [e1]; exact_mod_cast Iff.rfl
theorem A0u {a : Int} {D : Nat} {q : Rat} (hD : D ≠ 0) : q < (a : Rat) / (D : Rat) ↔ q.num * (D : Int) < a * (q.den : Int) := by
 have h1 : q = (q.num : Rat) / (q.den : Rat) := by rw [← Rat.mkRat_eq_div]; exact (Rat.mkRat_self q).symm
 have hd : (0 : Rat) < (q.den : Rat) := by have : 0 < q.den := by have := q.den_nz; omega
                                           exact_mod_cast this
 have hD' : (0 : Rat) < (D : Rat) := by have : 0 < D := by omega
                                        exact_mod_cast this
 have e1 : q < (a : Rat) / (D : Rat) ↔ (q.num : Rat) * (D : Rat) < (a : Rat) * (q.den : Rat) := by
  conv => lhs; rw [h1]
  rw [Rat.lt_div_iff hD', Rat.div_def, Rat.mul_assoc, Rat.mul_comm (q.den : Rat)⁻¹, ← Rat.mul_assoc, ← Rat.div_def, Rat.div_lt_iff hd]
 rw [e1]; exact_mod_cast Iff.rfl
theorem t0n (k : Nat) : 2 ^ k ≠ 0 := Nat.pos_iff_ne_zero.1 (Nat.pow_pos (by omega))
theorem t0k {k : Int} {q : Rat} : q < fkq k ↔ q.num * ((2 ^ 1074 : Nat) : Int) < kz k * (q.den : Int) := A0u (a := kz k) (t0n 1074)
theorem u0n (r : Nat) : kz (r : Int) = (rm r : Int) := by unfold kz; rw [if_neg (by omega), Int.natAbs_natCast]
theorem A03 {k : Int} (h : k.natAbs < infR) : endE k = ⟨0, fkq k⟩ := by
 unfold endE; rw [if_neg (by omega), if_neg (by omega)]
theorem a05 (q : Rat) : ¬ Eb.LT ⟨0, q⟩ (endE (g01 q)) := by
 have hd : 0 < q.den := by have := q.den_nz; omega
 obtain ⟨T, hT⟩ : ∃ T : Nat, T = 2 ^ 1074 := ⟨_, rfl⟩
 unfold g01
 by_cases c : 0 ≤ q.num
 · rw [if_pos c]
   have h := I03 (n := q.num.natAbs) hd
   rw [A03 (by rw [Int.natAbs_natCast]; exact h.lt)]
   rintro (g | ⟨_, _, g⟩)
   · exact absurd g (Int.lt_irrefl 0)
   · have g : q < fkq ((D07 q.num.natAbs q.den : Nat) : Int) := g
     rw [t0k, u0n] at g
     have hle := h.le
     rw [← hT] at g hle
     have e : q.num = (q.num.natAbs : Int) := by omega
     rw [e] at g
     have g2 : q.num.natAbs * T < rm (D07 q.num.natAbs q.den) * q.den := by exact_mod_cast g
     omega
 · rw [if_neg c]
   have h := W05 (n := q.num.natAbs) hd
   by_cases z : upK q.num.natAbs q.den = infR
   · rw [z]
     have e : endE (-(infR : Int)) = ⟨-1, 0⟩ := by unfold endE; rw [if_neg (by decide), if_pos rfl]
     rw [e]
     rintro (g | ⟨_, g, _⟩)
     · exact absurd g (by show ¬ (0 : Int) < -1; decide)
     · exact absurd g (by show ¬ (-1 : Int) = 0; decide)
   · have hle := h.le
     rw [A03 (by rw [Int.natAbs_neg, Int.natAbs_natCast]; omega)]
     rintro (g | ⟨_, _, g⟩)
     · exact absurd g (Int.lt_irrefl 0)
     · have g : q < fkq (-((upK q.num.natAbs q.den : Nat) : Int)) := g
       rw [t0k, f0r, u0n] at g
       rcases h.ge with h2 | h2
       · exact z h2
       · rw [← hT] at g h2
         have e : q.num * (T : Int) = -((q.num.natAbs * T : Nat) : Int) := by
          rw [Int.natCast_mul, ← Int.neg_mul]
          exact congrArg (fun x => x * (T : Int)) (by omega)
         rw [e, Int.neg_mul] at g
         have g2 : ((rm (upK q.num.natAbs q.den) * q.den : Nat) : Int) < ((q.num.natAbs * T : Nat) : Int) := by
          rw [Int.natCast_mul]; omega
         have := Int.ofNat_lt.1 g2
         omega
theorem Y0d (q : Rat) : ¬ Eb.LT (endE (U02 q)) ⟨0, q⟩ := by
 intro h
 rw [← Eb.LT_neg] at h
 have e : (⟨0, q⟩ : Eb).neg = ⟨0, -q⟩ := by unfold Eb.neg; simp
 rw [e, ← a03, ← j07] at h
 exact a05 (-q) h
theorem b05 {k l : Int} (hk : inK k) (hl : inK l) (h : k < l) : Eb.LT (endE k) (endE l) := by
 unfold inK at hk hl
 unfold endE
 rw [if_neg (by omega : ¬ k = (infR : Int))]
 by_cases a : k = -(infR : Int)
 · rw [if_pos a]
   by_cases b : l = (infR : Int)
   · rw [if_pos b]; exact .inl (by decide)
   · rw [if_neg b, if_neg (by omega)]; exact .inl (by show (-1 : Int) < 0; decide)
 · rw [if_neg a]
   by_cases b : l = (infR : Int)
   · rw [if_pos b]; exact .inl (by show (0 : Int) < 1; decide)
   · rw [if_neg b, if_neg (by omega)]
     refine .inr ⟨rfl, rfl, ?_⟩
     show fkq k < fkq l
     unfold fkq
     rw [Rat.div_lt_iff (s0n 1074), Rat.div_mul_cancel (Q0t 1074)]
     exact_mod_cast t0u h
theorem x0m {k l : Int} (hk : inK k) (hl : inK l) (h : ¬ Eb.LT (endE l) (endE k)) : k ≤ l := Int.not_lt.1 fun g => h (b05 hl hk g)
theorem X0s {q : Rat} {k : Int} (hk : k.natAbs < infR) (h : fkq k = q) : g01 q = k ∧ U02 q = k := by
 have hd : 0 < q.den := by have := q.den_nz; omega
 obtain ⟨T, hT⟩ : ∃ T : Nat, T = 2 ^ 1074 := ⟨_, rfl⟩
 have hx : kz k * (q.den : Int) = q.num * (T : Int) := by
  have a1 : ¬ q < fkq k := by rw [h]; exact Rat.lt_irrefl
  have a2 : ¬ fkq k < q := by rw [h]; exact Rat.lt_irrefl
  rw [t0k] at a1
  have a2 : ¬ kz k * (q.den : Int) < q.num * ((2 ^ 1074 : Nat) : Int) := fun g => a2 ((z0u (a := kz k) (t0n 1074)).2 g)
  rw [← hT] at a1 a2
  omega
 have hz : kz k = if k < 0 then -(rm k.natAbs : Int) else (rm k.natAbs : Int) := rfl
 have hdi : (0 : Int) < (q.den : Int) := by omega
 have hTi : (0 : Int) < (T : Int) := by have := t0n 1074; rw [← hT] at this; omega
 have key : rm k.natAbs * q.den = q.num.natAbs * T := by
  have := congrArg Int.natAbs hx
  rw [Int.natAbs_mul, Int.natAbs_mul, Int.natAbs_natCast, Int.natAbs_natCast] at this
  have e : (kz k).natAbs = rm k.natAbs := by rw [hz]; split <;> omega
  rw [e] at this; exact this
 have hD : z03 k.natAbs q.num.natAbs q.den := by
  refine ⟨hk, ?_, .inr ?_⟩
  · rw [← hT]; omega
  · rw [← hT, ← key]; exact Nat.mul_lt_mul_of_pos_right (o0f (by omega)) hd
 have hU : IsUp k.natAbs q.num.natAbs q.den := by
  refine ⟨by omega, .inr ?_, ?_⟩
  · rw [← hT]; omega
  · by_cases z : k.natAbs = 0
    · exact .inl z
    · refine .inr ?_
      rw [← hT, ← key]; exact Nat.mul_lt_mul_of_pos_right (o0f (by omega)) hd
 have e1 := hD.unique hd (I03 hd)
 have e2 := hU.unique hd (W05 hd)
 -- the signs agree
 have sg : 0 ≤ q.num ↔ 0 ≤ k ∨ k = 0 := by
  constructor
  · intro c
    refine Classical.byContradiction fun g => ?_
    have kn : k < 0 := by omega
    have p : 0 < rm k.natAbs := e0r (by omega)
    rw [hz, if_pos kn] at hx
    have a : (0 : Int) < (rm k.natAbs : Int) * (q.den : Int) := Int.mul_pos (by omega) hdi
    have b : (0 : Int) ≤ q.num * (T : Int) := Int.mul_nonneg c (by omega)
    rw [Int.neg_mul] at hx; omega
  · intro c
    have kn : ¬ k < 0 := by omega
    rw [hz, if_neg kn] at hx
    refine Int.not_lt.1 fun g => ?_
    have a : q.num * (T : Int) < 0 := Int.mul_neg_of_neg_of_pos g hTi
    have b : (0 : Int) ≤ (rm k.natAbs : Int) * (q.den : Int) := Int.mul_nonneg (by omega) (by omega)
    omega
 unfold g01 U02
 by_cases c : 0 ≤ q.num
 · have := sg.1 c
   rw [if_pos c, if_pos c, ← e1, ← e2]; omega
 · have : ¬ (0 ≤ k ∨ k = 0) := fun g => c (sg.2 g)
   rw [if_neg c, if_neg c, ← e1, ← e2]; omega

theorem Y0s {N D q : Nat} (hD : 0 < D) (hq : q = N / D) : q / 2 = N / (D * 2) ∧ (N % (D * 2) ≠ 0 ↔ (N % D ≠ 0 ∨ q % 2 = 1)) := by
 subst hq
 refine ⟨Nat.div_div_eq_div_mul .., ?_⟩
 rw [Nat.mod_mul]
 rcases Nat.mod_two_eq_zero_or_one (N / D) with h | h
 · rw [h]; omega
 · rw [h]; omega
structure Spl (a d K T q : Nat) (rest : Prop) : Prop where
 quo : q = a * 2 ^ K / (d * 2 ^ T)
 rest : a * 2 ^ K % (d * 2 ^ T) ≠ 0 ↔ rest
 big : T = 0 ∨ 2 ^ 52 ≤ q
theorem Spl.congr {a d K T q : Nat} {rest rest' : Prop} (h : Spl a d K T q rest) (e : rest ↔ rest') : Spl a d K T q rest' := ⟨h.quo, h.rest.trans e, h.big⟩
theorem Spl.step {a d K T q : Nat} {rest : Prop} (hd : 0 < d) (h : Spl a d K T q rest) (hq : 2 ^ 53 ≤ q) : Spl a d K (T + 1) (q / 2) (rest ∨ q % 2 = 1) := by
 have s := Y0s (N := a * 2 ^ K) (D := d * 2 ^ T) (Nat.mul_pos hd (m06 T)) h.quo
 have e : d * 2 ^ T * 2 = d * 2 ^ (T + 1) := by rw [Nat.pow_succ, Nat.mul_assoc]
 rw [e] at s
 exact ⟨s.1, by rw [s.2, h.rest], .inr (by omega)⟩
theorem Spl.core {a d K T m : Nat} {rest : Prop} (hd : 0 < d) (h : Spl a d K T m rest) :
 m * 2 ^ T * d ≤ a * 2 ^ K ∧ a * 2 ^ K < (m + 1) * 2 ^ T * d ∧ (¬ rest → m * 2 ^ T * d = a * 2 ^ K) ∧ (rest → m * 2 ^ T * d < a * 2 ^ K) := by
 have hr := h.rest
 have hq := h.quo
 have s : ∀ k : Nat, k * 2 ^ T * d = k * (d * 2 ^ T) := by intro k; ac_rfl
 rw [s, s]
 have hD : 0 < d * 2 ^ T := Nat.mul_pos hd (m06 T)
 generalize d * 2 ^ T = D at *
 generalize a * 2 ^ K = N at *
 have f := Nat.div_add_mod N D
 have g := Nat.mod_lt N hD
 rw [← hq] at f
 rw [Nat.add_mul, Nat.one_mul, Nat.mul_comm m D]
 refine ⟨by omega, by omega, fun n => ?_, fun y => ?_⟩
 · have z : N % D = 0 := Classical.byContradiction fun c => n (hr.1 c)
   omega
 · have z : N % D ≠ 0 := hr.2 y
   omega
theorem J0p {a b : Nat} (h : a ≤ b) : 2 ^ a ≤ 2 ^ b := Nat.pow_le_pow_right (by omega) h
theorem Spl.over {a d K T m : Nat} {rest : Prop} (hd : 0 < d) (h : Spl a d K T m rest) (hT : 2046 ≤ T) : rm infR * d ≤ a * 2 ^ K := by
 obtain ⟨g, hg⟩ : ∃ g, g = 2046 := ⟨_, rfl⟩
 rw [W0d hg, Nat.pow_add]
 have hb : 2 ^ 52 ≤ m := by rcases h.big with b | b <;> omega
 refine Nat.le_trans (Nat.mul_le_mul_right d ?_) (h.core hd).1
 exact Nat.mul_le_mul hb (J0p (by omega))

theorem C0v (k : Nat) : ∃ T : Nat, T = 2 ^ k ∧ 0 < T := ⟨_, rfl, m06 k⟩
theorem w0n : endE (infR : Int) = ⟨1, 0⟩ := by unfold endE; rw [if_pos rfl]
theorem c05 (q : Rat) : g01 q < (infR : Int) ∧ Eb.LT ⟨0, q⟩ (endE (g01 q + 1)) := by
 have hd : 0 < q.den := by have := q.den_nz; omega
 obtain ⟨T, hT, tp⟩ : ∃ T : Nat, T = 2 ^ 1074 ∧ 0 < T := C0v 1074
 have top : ∀ {k : Int}, k = (infR : Int) → Eb.LT ⟨0, q⟩ (endE k) := by
  intro k hk; rw [hk, w0n]; exact .inl (by show (0 : Int) < 1; decide)
 unfold g01
 by_cases c : 0 ≤ q.num
 · rw [if_pos c]
   have h := I03 (n := q.num.natAbs) hd
   have hlt := h.lt
   refine ⟨by omega, ?_⟩
   rcases h.next with e | e
   · exact top (by omega)
   · by_cases z : D07 q.num.natAbs q.den + 1 = infR
     · exact top (by omega)
     · rw [A03 (by omega)]
       refine .inr ⟨rfl, rfl, ?_⟩
       show q < fkq (((D07 q.num.natAbs q.den : Nat) : Int) + 1)
       have e1 : ((D07 q.num.natAbs q.den : Nat) : Int) + 1 = ((D07 q.num.natAbs q.den + 1 : Nat) : Int) := by omega
       rw [e1, t0k, u0n]
       rw [← hT] at e ⊢
       have e2 : q.num = (q.num.natAbs : Int) := by omega
       rw [e2]
       exact_mod_cast e
 · rw [if_neg c]
   have h := W05 (n := q.num.natAbs) hd
   have hle := h.le
   have hi : 0 < infR := by decide
   refine ⟨by omega, ?_⟩
   rcases h.prev with e | e
   · exfalso
     rcases h.ge with g | g
     · omega
     · rw [e, p08, Nat.zero_mul, ← hT] at g
       have np : 0 < q.num.natAbs := by omega
       have := Nat.mul_pos np tp
       omega
   · by_cases z : upK q.num.natAbs q.den = 0
     · exfalso
       rcases h.ge with g | g
       · omega
       · rw [z, p08, Nat.zero_mul, ← hT] at g
         have np : 0 < q.num.natAbs := by omega
         have := Nat.mul_pos np tp
         omega
     · have e1 : -((upK q.num.natAbs q.den : Nat) : Int) + 1 = -((upK q.num.natAbs q.den - 1 : Nat) : Int) := by omega
       rw [e1, A03 (by omega)]
       refine .inr ⟨rfl, rfl, ?_⟩
       show q < fkq (-((upK q.num.natAbs q.den - 1 : Nat) : Int))
       rw [t0k, f0r, u0n]
       rw [← hT] at e ⊢
       have e2 : q.num * (T : Int) = -((q.num.natAbs * T : Nat) : Int) := by
        rw [Int.natCast_mul, ← Int.neg_mul]
        exact congrArg (fun x => x * (T : Int)) (by omega)
       rw [e2, Int.neg_mul]
       have g2 : ((rm (upK q.num.natAbs q.den - 1) * q.den : Nat) : Int) < ((q.num.natAbs * T : Nat) : Int) := by exact_mod_cast e
       rw [Int.natCast_mul] at g2
       omega
theorem N04 (q : Rat) : (⟨0, q⟩ : Eb).neg = ⟨0, -q⟩ := by unfold Eb.neg; simp
theorem K0p (q : Rat) : -(infR : Int) < U02 q ∧ Eb.LT (endE (U02 q - 1)) ⟨0, q⟩ := by
 have h := c05 (-q)
 rw [j07] at h
 refine ⟨by omega, ?_⟩
 have h2 := h.2
 rw [← Eb.LT_neg, N04, ← a03] at h2
 have e : -(-U02 q + 1) = U02 q - 1 := by omega
 have e2 : (⟨0, - -q⟩ : Eb) = ⟨0, q⟩ := by congr 1; grind
 rw [e, e2] at h2
 exact h2
theorem x0n {q : Rat} {k : Int} (h0 : -(infR : Int) ≤ k) (h1 : k < (infR : Int)) (h2 : ¬ Eb.LT ⟨0, q⟩ (endE k)) (h3 : Eb.LT ⟨0, q⟩ (endE (k + 1))) : g01 q = k := by
 have b0 := M04 q
 have b1 := c05 q
 have b2 := a05 q
 unfold inK at b0
 rcases Int.lt_trichotomy (g01 q) k with h | h | h
 · exfalso
   rcases Int.lt_or_eq_of_le (show g01 q + 1 ≤ k by omega) with g | g
   · have := b05 (k := g01 q + 1) (l := k) ⟨by omega, by omega⟩ ⟨by omega, by omega⟩ g
     exact h2 (b1.2.trans this)
   · rw [← g] at h2; exact h2 b1.2
 · exact h
 · exfalso
   rcases Int.lt_or_eq_of_le (show k + 1 ≤ g01 q by omega) with g | g
   · have := b05 (k := k + 1) (l := g01 q) ⟨by omega, by omega⟩ ⟨by omega, by omega⟩ g
     exact b2 (h3.trans this)
   · rw [← g] at b2; exact b2 h3
theorem Z0s {q : Rat} {k : Int} (h0 : -(infR : Int) < k) (h1 : k ≤ (infR : Int)) (h2 : ¬ Eb.LT (endE k) ⟨0, q⟩) (h3 : Eb.LT (endE (k - 1)) ⟨0, q⟩) : U02 q = k := by
 have e : g01 (-q) = -k := by
  refine x0n (by omega) (by omega) ?_ ?_
  · rw [a03, ← N04, Eb.LT_neg]; exact h2
  · have e1 : -k + 1 = -(k - 1) := by omega
    rw [e1, a03, ← N04, Eb.LT_neg]; exact h3
 rw [j07] at e
 omega
theorem y0m (q : Rat) : g01 q ≤ U02 q ∧ U02 q ≤ g01 q + 1 := by
 have b := M04 q; have a := X0d q
 have b1 := c05 q; have a1 := K0p q
 unfold inK at a b
 refine ⟨x0m (M04 q) (X0d q) fun h => ?_, ?_⟩
 · rcases Eb.LT.weak (b := (⟨0, q⟩ : Eb)) h with g | g
   · exact Y0d q g
   · exact a05 q g
 · refine Int.not_lt.1 fun h => ?_
   have g : g01 q + 1 ≤ U02 q - 1 := by omega
   rcases Int.lt_or_eq_of_le g with g | g
   · exact Eb.LT.irrefl (b1.2.trans ((b05 (k := g01 q + 1) (l := U02 q - 1) ⟨by omega, by omega⟩ ⟨by omega, by omega⟩ g).trans a1.2))
   · rw [← g] at a1; exact Eb.LT.irrefl (b1.2.trans a1.2)
theorem D09 {a b : Rat} : Eb.LT ⟨0, a⟩ ⟨0, b⟩ ↔ a < b := by
 constructor
 · rintro (h | ⟨_, _, h⟩)
   · exact absurd h (Int.lt_irrefl 0)
   · exact h
 · exact fun h => .inr ⟨rfl, rfl, h⟩

theorem N06 {a b : Rat} (h0 : 0 ≤ a) (h : a ≤ b) : a * a ≤ b * b := by
 have h1 := Rat.mul_le_mul_of_nonneg_left h h0
 have h2 := Rat.mul_le_mul_of_nonneg_right h (show (0 : Rat) ≤ b by grind)
 grind
theorem D0v {a b : Rat} (h0 : 0 ≤ a) (h : a < b) : a * a < b * b := by
 have h1 := Rat.mul_le_mul_of_nonneg_left (Rat.le_of_lt h) h0
 have h2 := Rat.mul_lt_mul_of_pos_right h (show (0 : Rat) < b by grind)
 grind
def rtD (x q : Rat) : Rat := q * q * 2 - x
def rtP (x n q : Rat) : Prop := rtD x q < 0 ∨ rtD x q * rtD x q ≤ n
def rtC (x n q : Rat) : Int := if rtD x q < 0 then -1 else cmpR (rtD x q * rtD x q) n
theorem y0n {x n q : Rat} : rtC x n q ≤ 0 ↔ rtP x n q := by
 unfold rtC rtP
 by_cases h : rtD x q < 0
 · rw [if_pos h]; exact ⟨fun _ => .inl h, fun _ => by decide⟩
 · rw [if_neg h]
   unfold cmpR
   by_cases h1 : rtD x q * rtD x q < n
   · rw [if_pos h1]; exact ⟨fun _ => .inr (Rat.le_of_lt h1), fun _ => by decide⟩
   · rw [if_neg h1]
     by_cases h2 : rtD x q * rtD x q = n
     · rw [if_pos h2]; exact ⟨fun _ => .inr (by grind), fun _ => by decide⟩
     · rw [if_neg h2]
       refine ⟨fun e => absurd e (by decide), fun e => ?_⟩
       rcases e with e | e
       · exact absurd e h
       · grind
theorem P0a {x n q : Rat} : rtC x n q = 0 ↔ 0 ≤ rtD x q ∧ rtD x q * rtD x q = n := by
 unfold rtC
 by_cases h : rtD x q < 0
 · rw [if_pos h]; exact ⟨fun e => absurd e (by decide), fun e => by grind⟩
 · rw [if_neg h]
   have h0 : 0 ≤ rtD x q := by grind
   unfold cmpR
   by_cases h1 : rtD x q * rtD x q < n
   · rw [if_pos h1]; exact ⟨fun e => absurd e (by decide), fun e => by grind⟩
   · rw [if_neg h1]
     by_cases h2 : rtD x q * rtD x q = n
     · rw [if_pos h2]; exact ⟨fun _ => ⟨h0, h2⟩, fun _ => rfl⟩
     · rw [if_neg h2]; exact ⟨fun e => absurd e (by decide), fun e => absurd e.2 h2⟩
theorem a0t {x n p q : Rat} (hp : 0 ≤ p) (hpq : p ≤ q) (h : rtP x n q) : rtP x n p := by
 have s := N06 hp hpq
 have d : rtD x p ≤ rtD x q := by unfold rtD; grind
 by_cases c : rtD x p < 0
 · exact .inl c
 · refine .inr ?_
   have c0 : 0 ≤ rtD x p := by grind
   have := N06 c0 d
   rcases h with h | h
   · grind
   · grind
theorem u0r {x n p q : Rat} (hp : 0 ≤ p) (hpq : p < q) (h : rtC x n p = 0) : ¬ rtP x n q := by
 obtain ⟨h1, h2⟩ := P0a.1 h
 have s := D0v hp hpq
 have d : rtD x p < rtD x q := by unfold rtD; grind
 have t := D0v h1 d
 rintro (g | g)
 · grind
 · grind
structure P0c (P : Rat → Prop) (r : Nat) : Prop where
 lt : r < infR
 le : P (fkq (r : Int))
 next : r + 1 = infR ∨ ¬ P (fkq ((r + 1 : Nat) : Int))
theorem E0v {a b : Int} : fkq a < fkq b ↔ a < b := by
 unfold fkq
 rw [Rat.div_lt_iff (s0n 1074), Rat.div_mul_cancel (Q0t 1074)]
 constructor
 · intro h; exact J0a.1 (by exact_mod_cast h)
 · intro h; exact_mod_cast J0a.2 h
theorem Z0d {a b : Int} (h : a ≤ b) : fkq a ≤ fkq b := by
 rcases Int.lt_or_eq_of_le h with h | h
 · exact Rat.le_of_lt (E0v.2 h)
 · rw [h]; exact Rat.le_refl
theorem F07 : fkq 0 = 0 := by
 unfold fkq
 have : kz 0 = 0 := by decide
 rw [this, Rat.div_def]; exact Rat.zero_mul _
theorem j03 (r : Nat) : 0 ≤ fkq (r : Int) := by
 have := Z0d (a := 0) (b := (r : Int)) (by omega)
 rw [F07] at this; exact this
theorem P0c.unique {P : Rat → Prop} (hP : ∀ p q, 0 ≤ p → p ≤ q → P q → P p) {r s : Nat} (h : P0c P r) (k : P0c P s) : r = s := by
 have key : ∀ {a b : Nat}, P0c P a → P0c P b → ¬ a < b := by
  intro a b ha hb c
  rcases ha.next with e | e
  · have := hb.lt; omega
  · exact e (hP _ _ (j03 _) (Z0d (by omega)) hb.le)
 have := key h k
 have := key k h
 omega
theorem P0c.congr {P Q : Rat → Prop} (h : ∀ q, 0 ≤ q → (P q ↔ Q q)) {r : Nat} (k : P0c P r) : P0c Q r :=
 ⟨k.lt, (h _ (j03 _)).1 k.le, k.next.imp id fun n e => n ((h _ (j03 _)).2 e)⟩
theorem b0t {q : Rat} {k : Int} (hk : k.natAbs < infR) (h : ¬ Eb.LT ⟨0, q⟩ (endE k)) : fkq k ≤ q := by
 rw [A03 hk, D09] at h; exact Rat.not_lt.1 h
theorem u0k {q : Rat} (h : 0 ≤ q) : 0 ≤ g01 q := by
 have b1 := c05 q
 refine Int.not_lt.1 fun c => ?_
 have b := M04 q
 unfold inK at b
 by_cases e : g01 q = -(infR : Int)
 · have hi : (0 : Nat) < infR - 1 := by decide
   have h2 := b1.2
   rw [A03 (by omega), D09] at h2
   have := Z0d (a := g01 q + 1) (b := 0) (by omega)
   rw [F07] at this; grind
 · have h2 := b1.2
   rw [A03 (by omega), D09] at h2
   have := Z0d (a := g01 q + 1) (b := 0) (by omega)
   rw [F07] at this; grind
theorem j0w {P : Rat → Prop} (hP : ∀ p q, 0 ≤ p → p ≤ q → P q → P p) {lo hi : Rat} (h0 : 0 ≤ lo) (hh : 0 ≤ hi) (h1 : P lo) (h2 : ¬ P hi) (hb : g01 lo = g01 hi) (ha : U02 lo = U02 hi) :
 ∃ r : Nat, P0c P r ∧ g01 lo = r ∧ U02 lo = ((r + 1 : Nat) : Int) ∧ ∃ q, fkq (r : Int) < q ∧ P q := by
 have hlt : lo < hi := Rat.not_le.1 fun g => h2 (hP _ _ hh g h1)
 have k0 := u0k h0
 have kn := c05 lo
 have kf := a05 lo
 have kn2 := c05 hi
 rw [← hb] at kn2
 obtain ⟨r, hr⟩ : ∃ r : Nat, g01 lo = r := ⟨(g01 lo).toNat, by omega⟩
 rw [hr] at kn kf kn2
 have ab := y0m lo
 rw [hr] at ab
 have hle := b0t (by omega) kf
 have hne : U02 lo ≠ r := by
  intro e
  have af := Y0d hi
  rw [← ha, e, A03 (by omega), D09] at af
  have : hi ≤ fkq (r : Int) := Rat.not_lt.1 af
  grind
 have hne2 : fkq (r : Int) ≠ lo := by
  intro e
  exact hne (X0s (by omega) e).2
 refine ⟨r, ⟨by omega, hP _ _ (j03 r) hle h1, ?_⟩, hr, by omega, lo, by grind, h1⟩
 by_cases c : r + 1 = infR
 · exact .inl c
 · refine .inr fun g => h2 (hP _ _ hh ?_ g)
   have := kn2.2
   rw [A03 (by omega), D09] at this
   have e : ((r : Nat) : Int) + 1 = ((r + 1 : Nat) : Int) := by omega
   rw [e] at this
   exact Rat.le_of_lt this
theorem k0w {lo hi : Rat} {r : Nat} (hr : r + 1 < infR) (h1 : fkq (r : Int) < lo) (h2 : lo ≤ hi) (h3 : hi < fkq ((r + 1 : Nat) : Int)) : g01 lo = g01 hi ∧ U02 lo = U02 hi := by
 have key : ∀ {q : Rat}, fkq (r : Int) < q → q < fkq ((r + 1 : Nat) : Int) → g01 q = r ∧ U02 q = ((r + 1 : Nat) : Int) := by
  intro q a b
  have e1 : ((r : Nat) : Int) + 1 = ((r + 1 : Nat) : Int) := by omega
  have e2 : ((r + 1 : Nat) : Int) - 1 = (r : Int) := by omega
  refine ⟨x0n (by omega) (by omega) ?_ ?_, Z0s (by omega) (by omega) ?_ ?_⟩
  · rw [A03 (by omega), D09]; grind
  · rw [e1, A03 (by omega), D09]; exact b
  · rw [A03 (by omega), D09]; grind
  · rw [e2, A03 (by omega), D09]; exact a
 have k1 := key h1 (by grind)
 have k2 := key (q := hi) (by grind) h3
 exact ⟨k1.1.trans k2.1.symm, k1.2.trans k2.2.symm⟩
theorem s00 (a : Rat) : 0 ≤ a * a := by
 by_cases z : 0 ≤ a
 · exact Rat.mul_nonneg z z
 · have := Rat.mul_nonneg (show 0 ≤ -a by grind) (show 0 ≤ -a by grind); grind

theorem o06 : endE 0 = Eb.fin 0 := by
 rw [A03 (by decide), F07]; rfl
theorem Q0a {k : Int} (hk : inK k) : (endE k).sign = cmpZ k 0 := by
 have z : inK 0 := by unfold inK infR; omega
 have e : (endE k).sign = (endE k).cmp (endE 0) := by rw [o06]; rfl
 rw [e]
 rcases Int.lt_trichotomy k 0 with h | h | h
 · rw [P0h h, Eb.cmp_neg1.2 (b05 hk z h)]
 · rw [q0m h, h]
   have r := Eb.cmp_range (endE 0) (endE 0)
   rcases r with r | r | r
   · exact absurd (Eb.cmp_neg1.1 r) Eb.LT.irrefl
   · exact r
   · exact absurd (Eb.cmp_1.1 r) Eb.LT.irrefl
 · rw [s0m h, Eb.cmp_1.2 (b05 z hk h)]
theorem z0m {s : Sk} (h : s.ok) : s.set.zero = (decide (s.lo ≤ 0) && decide (0 ≤ s.hi)) := by
 show (decide ((endE s.lo).sign ≤ 0) && decide (0 ≤ (endE s.hi).sign)) = _
 rw [Q0a h.lo, Q0a h.hi]
 have a : (cmpZ s.lo 0 ≤ 0) ↔ s.lo ≤ 0 := by unfold cmpZ; split <;> (try split) <;> omega
 have b : (0 ≤ cmpZ s.hi 0) ↔ 0 ≤ s.hi := by unfold cmpZ; split <;> (try split) <;> omega
 rw [decide_eq_decide.2 a, decide_eq_decide.2 b]
theorem zero_add {e : Eb} (h : e.ok) : (Eb.fin 0).add e = e := by
 unfold Eb.add
 rw [if_neg (by decide)]
 by_cases c : e.inf = 0
 · rw [if_neg (by omega)]
   cases e
   dsimp only at c ⊢
   rw [c]
   congr 1
   show (0 : Rat) + _ = _
   grind
 · rw [if_pos c]
def Eb.abs (a : Eb) : Eb := if a.sign < 0 then a.neg else a
def Es.size (a : Es) : Es := if a.zero then ⟨Eb.fin 0, Eb.pick 1 [a.lo.abs, a.hi.abs]⟩ else ⟨Eb.pick (-1) [a.lo.abs, a.hi.abs], Eb.pick 1 [a.lo.abs, a.hi.abs]⟩
def Es.square (a : Es) : Es := ⟨a.size.lo.mul a.size.lo, a.size.hi.mul a.size.hi⟩
theorem n0g {a : Eb} (h : a.ok) : a.abs.ok := by
 unfold Eb.abs; split
 · exact Eb.neg_ok h
 · exact h
theorem w0r {a : Eb} (h : a.inf = 0) : a.abs = ⟨0, if a.x < 0 then -a.x else a.x⟩ := by
 have s : a.sign = cmpR a.x 0 := by
  show (if a.inf ≠ 0 ∨ (0 : Int) ≠ 0 then cmpZ a.inf 0 else cmpR a.x 0) = _
  rw [if_neg (by omega)]
 unfold Eb.abs
 rw [s]
 by_cases c : a.x < 0
 · rw [if_pos c, if_pos (by unfold cmpR; rw [if_pos c]; decide)]
   show Eb.mk (-a.inf) (-a.x) = _; rw [h]; rfl
 · rw [if_neg c, if_neg (by unfold cmpR; rw [if_neg c]; split <;> decide)]
   cases a; dsimp only at h; rw [h]
theorem A0m {a : Eb} (h : a.inf ≠ 0) (ho : a.ok) : a.abs = ⟨1, 0⟩ := by
 rcases ho with g | ⟨g, g2⟩
 · exact absurd g h
 · have s := k09 h
   unfold Eb.abs
   rcases g2 with g2 | g2
   · rw [if_neg (by rw [s.2 (by omega)]; decide)]
     cases a; dsimp only at g g2; rw [g, g2]
   · rw [if_pos (by rw [s.1 (by omega)]; decide)]
     cases a; dsimp only at g g2; rw [g, g2]; rfl
theorem F0v (a : Eb) : a.abs.mul a.abs = a.mul a := by
 unfold Eb.abs
 split
 · rw [Eb.mul_neg, Eb.mul_comm, Eb.mul_neg, Eb.neg_neg]
 · rfl

theorem c0t {x n : Rat} (h : x * x ≤ n) : rtP x n 0 := by
 unfold rtP rtD
 by_cases c : (0 : Rat) * 0 * 2 - x < 0
 · exact .inl c
 · refine .inr ?_
   have e : ((0 : Rat) * 0 * 2 - x) * (0 * 0 * 2 - x) = x * x := by grind
   rw [e]; exact h
theorem G0v (x y : Rat) : x * x ≤ x * x + y * y := by have := s00 y; grind
def U00 (e f : Eb) (up : Bool) (k : Nat) : Prop :=
 if 0 < e.inf ∨ f.inf ≠ 0 then k = infR else if e.inf < 0 then k = 0
 else ∃ r, P0c (rtP e.x (e.x * e.x + f.x * f.x)) r ∧ k = if up = true ∧ rtC e.x (e.x * e.x + f.x * f.x) (fkq (r : Int)) ≠ 0 then r + 1 else r
theorem a0i (x n : Rat) : ∀ p q, 0 ≤ p → p ≤ q → rtP x n q → rtP x n p := fun _ _ => a0t
theorem U00.unique {e f : Eb} {up : Bool} {k l : Nat} (h : U00 e f up k) (g : U00 e f up l) : k = l := by
 unfold U00 at h g
 by_cases c : 0 < e.inf ∨ f.inf ≠ 0
 · rw [if_pos c] at h g; rw [h, g]
 · rw [if_neg c] at h g
   by_cases d : e.inf < 0
   · rw [if_pos d] at h g; rw [h, g]
   · rw [if_neg d] at h g
     obtain ⟨r, h1, h2⟩ := h
     obtain ⟨s, g1, g2⟩ := g
     have := h1.unique (a0i _ _) g1
     subst this
     rw [h2, g2]
theorem U00.le {e f : Eb} {up : Bool} {k : Nat} (h : U00 e f up k) : k ≤ infR := by
 unfold U00 at h
 split at h
 · omega
 · split at h
   · omega
   · obtain ⟨r, h1, h2⟩ := h
     have := h1.lt
     split at h2 <;> omega
theorem m03 {k : Nat} (h : k ≤ infR) : inK (k : Int) := ⟨by omega, by omega⟩
theorem a0e {k : Int} (h : inK k) : inK (-k) := by unfold inK at *; omega
def B0m (s t : Sk) : Prop := if s.lo < 0 then t = Sk.nil else ∃ k l : Nat, t = ⟨(k : Int), (l : Int)⟩ ∧ U00 s.set.lo (Eb.fin 0) false k ∧ U00 s.set.hi (Eb.fin 0) true l
theorem B0m.unique {s t u : Sk} (h : B0m s t) (g : B0m s u) : t = u := by
 unfold B0m at h g
 split at h
 · rename_i c; rw [if_pos c] at g; rw [h, g]
 · rename_i c; rw [if_neg c] at g
   obtain ⟨k, l, e, h1, h2⟩ := h
   obtain ⟨k', l', e', g1, g2⟩ := g
   rw [e, e', h1.unique g1, h2.unique g2]
theorem B0m.ok {s t : Sk} (h : B0m s t) : t.ok := by
 unfold B0m at h
 split at h
 · rw [h]; exact Sk.nil_ok
 · obtain ⟨k, l, e, h1, h2⟩ := h
   rw [e]; exact ⟨m03 h1.le, m03 h2.le⟩
structure b0i (b t : Bk) : Prop where
 r1 : ∃ k : Nat, t.re.lo = k ∧ U00 b.re.set.lo b.im.set.size.lo false k
 r2 : ∃ k : Nat, t.re.hi = k ∧ U00 b.re.set.hi b.im.set.size.hi true k
 i1 : ∃ k : Nat, (b.im.lo < 0 → t.im.lo = -(k : Int) ∧ U00 b.re.set.lo.neg b.im.set.lo.neg true k) ∧ (¬ b.im.lo < 0 → t.im.lo = k ∧ U00 b.re.set.hi.neg b.im.set.lo false k)
 i2 : ∃ k : Nat, (b.im.hi < 0 → t.im.hi = -(k : Int) ∧ U00 b.re.set.hi.neg b.im.set.hi.neg false k) ∧ (¬ b.im.hi < 0 → t.im.hi = k ∧ U00 b.re.set.lo.neg b.im.set.hi true k)
theorem b0i.unique {b t u : Bk} (h : b0i b t) (g : b0i b u) : t = u := by
 obtain ⟨k1, a1, b1⟩ := h.r1; obtain ⟨l1, c1, d1⟩ := g.r1
 obtain ⟨k2, a2, b2⟩ := h.r2; obtain ⟨l2, c2, d2⟩ := g.r2
 obtain ⟨k3, a3, b3⟩ := h.i1; obtain ⟨l3, c3, d3⟩ := g.i1
 obtain ⟨k4, a4, b4⟩ := h.i2; obtain ⟨l4, c4, d4⟩ := g.i2
 have e1 : t.re.lo = u.re.lo := by rw [a1, c1, b1.unique d1]
 have e2 : t.re.hi = u.re.hi := by rw [a2, c2, b2.unique d2]
 have e3 : t.im.lo = u.im.lo := by
  by_cases c : b.im.lo < 0
  · rw [(a3 c).1, (c3 c).1, (a3 c).2.unique (c3 c).2]
  · rw [(b3 c).1, (d3 c).1, (b3 c).2.unique (d3 c).2]
 have e4 : t.im.hi = u.im.hi := by
  by_cases c : b.im.hi < 0
  · rw [(a4 c).1, (c4 c).1, (a4 c).2.unique (c4 c).2]
  · rw [(b4 c).1, (d4 c).1, (b4 c).2.unique (d4 c).2]
 obtain ⟨⟨t1, t2⟩, ⟨t3, t4⟩⟩ := t
 obtain ⟨⟨u1, u2⟩, ⟨u3, u4⟩⟩ := u
 dsimp only at e1 e2 e3 e4
 rw [e1, e2, e3, e4]
theorem b0i.ok {b t : Bk} (h : b0i b t) : t.ok := by
 obtain ⟨k1, a1, b1⟩ := h.r1
 obtain ⟨k2, a2, b2⟩ := h.r2
 obtain ⟨k3, a3, b3⟩ := h.i1
 obtain ⟨k4, a4, b4⟩ := h.i2
 refine ⟨⟨?_, ?_⟩, ⟨?_, ?_⟩⟩
 · rw [a1]; exact m03 b1.le
 · rw [a2]; exact m03 b2.le
 · by_cases c : b.im.lo < 0
   · rw [(a3 c).1]; exact a0e (m03 (a3 c).2.le)
   · rw [(b3 c).1]; exact m03 (b3 c).2.le
 · by_cases c : b.im.hi < 0
   · rw [(a4 c).1]; exact a0e (m03 (a4 c).2.le)
   · rw [(b4 c).1]; exact m03 (b4 c).2.le

theorem H0v {a x q y : Nat} (hq : a < x * (q + 1)) (hy : x + q ≤ 2 * y + 1) : a < (y + 1) * (y + 1) := by
 have h1 : x + (q + 1) ≤ 2 * (y + 1) := by omega
 have h2 : (x + (q + 1)) * (x + (q + 1)) ≤ 2 * (y + 1) * (2 * (y + 1)) := Nat.mul_le_mul h1 h1
 have h3 : 4 * (x * (q + 1)) ≤ (x + (q + 1)) * (x + (q + 1)) := by
  rcases Nat.le_total x (q + 1) with c | c
  · obtain ⟨d, e⟩ := Nat.exists_eq_add_of_le c
    rw [e]; have := Nat.zero_le (d * d); grind
  · obtain ⟨d, e⟩ := Nat.exists_eq_add_of_le c
    rw [e]; have := Nat.zero_le (d * d); grind
 have h4 : 2 * (y + 1) * (2 * (y + 1)) = 4 * ((y + 1) * (y + 1)) := by grind
 omega
def E09 (k a : Nat) : Prop := k * k ≤ a ∧ a < (k + 1) * (k + 1)
theorem E09.unique {k j a : Nat} (h : E09 k a) (g : E09 j a) : k = j := by
 have key : ∀ {k j : Nat}, E09 k a → E09 j a → ¬ k < j := by
  intro k j h g c
  have := Nat.mul_le_mul (show k + 1 ≤ j by omega) (show k + 1 ≤ j by omega)
  have h2 := h.2; have g1 := g.1
  omega
 have := key h g; have := key g h
 omega
theorem E09.sq (k : Nat) : E09 k (k * k) := by
 have : (k + 1) * (k + 1) = k * k + (2 * k + 1) := by grind
 exact ⟨Nat.le_refl _, by omega⟩
theorem l0w (n : Nat) : n ≤ n * n := by
 rcases Nat.eq_zero_or_pos n with e | e
 · omega
 · exact Nat.le_mul_of_pos_left _ e
theorem E09.le {k a : Nat} (h : E09 k a) : k ≤ a := Nat.le_trans (l0w k) h.1
theorem re_B (q : Rat) : (⟨q, 0⟩ : Cq).B = 0 := by
 have r := (⟨q, 0⟩ : Cq).canon.rep
 have e : (0 : Rat) = ((⟨q, 0⟩ : Cq).B : Rat) / ((⟨q, 0⟩ : Cq).D : Rat) := r.im
 have := Rat.div_mul_cancel (a := ((⟨q, 0⟩ : Cq).B : Rat)) (Y00 r.pos)
 rw [← e, Rat.zero_mul] at this
 exact_mod_cast this.symm
theorem I0v {q : Rat} {K : Nat} (h : (⟨q, 0⟩ : Cq).sz ≤ K) (h0 : 0 < q) : 1 ≤ q * ((2 ^ K : Nat) : Rat) := by
 have r := (⟨q, 0⟩ : Cq).canon.rep
 have d := Nat.le_of_lt (I0a (Nat.le_trans (Cq.szD (⟨q, 0⟩ : Cq)) h))
 have r1 := r.re
 have dp : (0 : Rat) < ((⟨q, 0⟩ : Cq).D : Rat) := by have := r.pos; exact_mod_cast (by omega : 0 < (⟨q, 0⟩ : Cq).D)
 have e : q * ((⟨q, 0⟩ : Cq).D : Rat) = ((⟨q, 0⟩ : Cq).A : Rat) := by
  have r1 : q = ((⟨q, 0⟩ : Cq).A : Rat) / ((⟨q, 0⟩ : Cq).D : Rat) := r1
  have := Rat.div_mul_cancel (a := ((⟨q, 0⟩ : Cq).A : Rat)) (Y00 r.pos)
  rw [← r1] at this; exact this
 have p : (0 : Rat) < ((⟨q, 0⟩ : Cq).A : Rat) := by rw [← e]; exact Rat.mul_pos h0 dp
 have p1 : (1 : Rat) ≤ ((⟨q, 0⟩ : Cq).A : Rat) := by
  have : 0 < (⟨q, 0⟩ : Cq).A := by exact_mod_cast p
  exact_mod_cast (by omega : 1 ≤ (⟨q, 0⟩ : Cq).A)
 have m := Rat.mul_le_mul_of_nonneg_left (show ((⟨q, 0⟩ : Cq).D : Rat) ≤ ((2 ^ K : Nat) : Rat) by exact_mod_cast d) (Rat.le_of_lt h0)
 grind
theorem B0u {q : Rat} {K : Nat} (h : (⟨q, 0⟩ : Cq).sz ≤ K) : q ≤ ((2 ^ K : Nat) : Rat) := by
 have r := (⟨q, 0⟩ : Cq).canon.rep
 have a := I0a (Nat.le_trans (Cq.szA (⟨q, 0⟩ : Cq)) h)
 have r1 : q = ((⟨q, 0⟩ : Cq).A : Rat) / ((⟨q, 0⟩ : Cq).D : Rat) := r.re
 have dp : (1 : Rat) ≤ ((⟨q, 0⟩ : Cq).D : Rat) := by have := r.pos; exact_mod_cast (by omega : 1 ≤ (⟨q, 0⟩ : Cq).D)
 have e : q * ((⟨q, 0⟩ : Cq).D : Rat) = ((⟨q, 0⟩ : Cq).A : Rat) := by
  have := Rat.div_mul_cancel (a := ((⟨q, 0⟩ : Cq).A : Rat)) (Y00 r.pos)
  rw [← r1] at this; exact this
 have ub : ((⟨q, 0⟩ : Cq).A : Rat) ≤ ((2 ^ K : Nat) : Rat) := by
  have : (⟨q, 0⟩ : Cq).A ≤ ((2 ^ K : Nat) : Int) := by omega
  exact_mod_cast this
 by_cases c : 0 ≤ q
 · have := Rat.mul_le_mul_of_nonneg_left dp c; grind
 · have : (0 : Rat) ≤ ((2 ^ K : Nat) : Rat) := by exact_mod_cast Nat.zero_le _
   grind
theorem t0w {a b u : Rat} {S K : Nat} (ha : (⟨a, 0⟩ : Cq).sz ≤ S) (hb : (⟨b, 0⟩ : Cq).sz ≤ S) (b0 : 0 < b) (hK : 2 * S ≤ K) (u0 : 0 ≤ u) (hu : u * ((2 ^ K : Nat) : Rat) = 1) : u * a ≤ b := by
 have h1 := B0u ha
 have h2 := I0v hb b0
 have e : ((2 ^ S : Nat) : Rat) * ((2 ^ S : Nat) : Rat) ≤ ((2 ^ K : Nat) : Rat) := by
  have : 2 ^ S * 2 ^ S ≤ 2 ^ K := by rw [← Nat.pow_add]; exact Nat.pow_le_pow_right (by omega) (by omega)
  exact_mod_cast this
 have p : (0 : Rat) < ((2 ^ S : Nat) : Rat) := by exact_mod_cast Nat.pow_pos (by omega)
 have k1 := Rat.mul_le_mul_of_nonneg_left h1 u0
 have k2 := Rat.mul_le_mul_of_nonneg_left e u0
 -- u 2^S 2^S ≤ 1 ≤ b 2^S
 refine Rat.le_trans k1 ?_
 refine Rat.not_lt.1 fun g => ?_
 have := Rat.mul_lt_mul_of_pos_right g p
 grind

-- a bound is not above another one
def Eb.Le (a b : Eb) : Prop := ¬ Eb.LT b a
theorem Eb.Le.trans {a b c : Eb} (h : a.Le b) (k : b.Le c) : a.Le c := fun g => by
 rcases Eb.LT.weak (b := b) g with p | p
 · exact k p
 · exact h p
theorem Eb.Le.refl (a : Eb) : a.Le a := Eb.LT.irrefl
theorem s02 {a b : Rat} : Eb.Le ⟨0, a⟩ ⟨0, b⟩ ↔ a ≤ b := by unfold Eb.Le; rw [D09]; exact ⟨fun h => Rat.not_lt.1 h, fun h => Rat.not_lt.2 h⟩
theorem e0d {a : Eb} (_ : a.ok) (x : Rat) : Eb.Le ⟨-1, x⟩ a := by
 rcases e05 ‹a.ok› with h | h | h
 · rintro (g | ⟨_, g, _⟩)
   · have : a.inf < -1 := g; omega
   · exact absurd g (by show ¬ (-1 : Int) = 0; decide)
 · rintro (g | ⟨_, g, _⟩)
   · have : a.inf < -1 := g; omega
   · exact absurd g (by show ¬ (-1 : Int) = 0; decide)
 · rintro (g | ⟨_, g, _⟩)
   · have : a.inf < -1 := g; omega
   · exact absurd g (by show ¬ (-1 : Int) = 0; decide)
theorem C0u {a : Eb} (_ : a.ok) (x : Rat) : Eb.Le a ⟨1, x⟩ := by
 rintro (g | ⟨g, _, _⟩)
 · have g : (1 : Int) < a.inf := g
   rcases e05 ‹a.ok› with h | h | h <;> omega
 · exact absurd g (by show ¬ (1 : Int) = 0; decide)
theorem x0r {s t : Sk} (h1 : t.lo ≤ s.lo) (h2 : s.hi ≤ t.hi) : s.isIn t = true := by
 unfold Sk.isIn; rw [Bool.and_eq_true, decide_eq_true_iff, decide_eq_true_iff]; exact ⟨h1, h2⟩
theorem y0r {a b : Es} {e : Eb} (h : e ∈ Es.prods a b) : Eb.Le (a.mul b).lo e := Eb.pick_first (way := -1) (.inr rfl) e h
theorem z0r {a b : Es} {e : Eb} (h : e ∈ Es.prods a b) : Eb.Le e (a.mul b).hi := Eb.pick_first (way := 1) (.inl rfl) e h
theorem D0u (a b : Es) : (a.mul b).lo.ok := N02 a b _ (Eb.pick_in (k02 a b))
theorem E0u (a b : Es) : (a.mul b).hi.ok := N02 a b _ (Eb.pick_in (k02 a b))
theorem N05 {e : Eb} (h : e.inf = 0) : e = ⟨0, e.x⟩ := by cases e; dsimp only at h; rw [h]
theorem o0g {e : Eb} (ho : e.ok) (h : e.inf ≠ 0) : e = ⟨1, 0⟩ ∨ e = ⟨-1, 0⟩ := by
 rcases ho with g | ⟨g, g2 | g2⟩
 · exact absurd g h
 · left; cases e; dsimp only at g g2; rw [g, g2]
 · right; cases e; dsimp only at g g2; rw [g, g2]
theorem O0b (a b : Rat) : (⟨0, a⟩ : Eb).mul ⟨0, b⟩ = ⟨0, a * b⟩ := by unfold Eb.mul; rw [if_pos ⟨rfl, rfl⟩]
theorem c0i {k : Nat} (h : k < infR) : endE (k : Int) = ⟨0, fkq (k : Int)⟩ := A03 (by omega)
theorem d0t : endE (-(infR : Int)) = ⟨-1, 0⟩ := by unfold endE; rw [if_neg (by decide), if_pos rfl]
-- numbers about roots
theorem z0n {x y q : Rat} (hq : 0 ≤ q) (h : rtP x (x * x + y * y) q) : (q * q * 2) * (q * q * 2) - 2 * (q * q * 2) * x ≤ y * y := by
 have q0 : 0 ≤ q * q := Rat.mul_nonneg hq hq
 rcases h with h | h
 · unfold rtD at h
   have a : 0 ≤ q * q * 2 * (x - q * q * 2) := Rat.mul_nonneg (by grind) (by grind)
   have b : 0 ≤ q * q * 2 * (q * q * 2) := s00 _
   have c := s00 y
   grind
 · unfold rtD at h; grind
theorem U00.low {e f : Eb} {k : Nat} (h : U00 e f false k) (hk : k < infR) : e.inf ≤ 0 ∧ f.inf = 0 ∧ (e.inf < 0 → k = 0) ∧ (e.inf = 0 → rtP e.x (e.x * e.x + f.x * f.x) (fkq (k : Int))) := by
 unfold U00 at h
 by_cases c : 0 < e.inf ∨ f.inf ≠ 0
 · rw [if_pos c] at h; omega
 · rw [if_neg c] at h
   refine ⟨by omega, by omega, fun g => ?_, fun g => ?_⟩
   · rw [if_pos g] at h; exact h
   · rw [if_neg (by omega)] at h
     obtain ⟨r, h1, h2⟩ := h
     rw [if_neg (fun g => by exact absurd g.1 (by decide))] at h2
     rw [h2]; exact h1.le
theorem U00.inf {e f : Eb} {up : Bool} {k : Nat} (h : U00 e f up k) (hk : 0 < e.inf ∨ f.inf ≠ 0) : k = infR := by unfold U00 at h; rw [if_pos hk] at h; exact h
theorem U00.low_fin {e f : Eb} {k : Nat} (h : U00 e f false k) (h1 : e.inf ≤ 0) (h2 : f.inf = 0) : k < infR := by
 unfold U00 at h
 rw [if_neg (by omega)] at h
 split at h
 · rw [h]; decide
 · obtain ⟨r, a, b⟩ := h
   rw [if_neg (fun g => by exact absurd g.1 (by decide))] at b
   rw [b]; exact a.lt
-- the parts of what is proper
theorem S0t {s : Sk} (p : s.proper) : (endE s.lo).inf = 0 ∨ endE s.lo = ⟨-1, 0⟩ := by
 by_cases c : (endE s.lo).inf = 0
 · exact .inl c
 · exact .inr (Y0h p.2.1 c)
theorem T0t {s : Sk} (p : s.proper) : (endE s.hi).inf = 0 ∨ endE s.hi = ⟨1, 0⟩ := by
 by_cases c : (endE s.hi).inf = 0
 · exact .inl c
 · exact .inr (Z0h p.2.2 c)
theorem e0t {a : Eb} (h : a.inf = 0) : a.abs.inf = 0 ∧ 0 ≤ a.abs.x ∧ a.abs.x * a.abs.x = a.x * a.x := by
 rw [w0r h]
 refine ⟨rfl, ?_, ?_⟩
 · show (0 : Rat) ≤ (if a.x < 0 then -a.x else a.x); split <;> grind
 · show (if a.x < 0 then -a.x else a.x) * (if a.x < 0 then -a.x else a.x) = _; split <;> grind
theorem t05 {a b : Eb} (ha : a.inf = 0) (hb : b.inf = 0) (h : Eb.Le a b) : a.x ≤ b.x := by
 rw [N05 ha, N05 hb, s02] at h; exact h
structure m0w (s : Sk) : Prop where
 lo0 : s.set.size.lo.inf = 0
 pos : 0 ≤ s.lo → s.set.size.lo = endE s.lo
 neg : s.hi < 0 → s.set.size.lo = (endE s.hi).neg
 hi1 : s.set.size.hi.inf = 0 → (endE s.lo).inf = 0 ∧ (endE s.lo).x * (endE s.lo).x ≤ s.set.size.hi.x * s.set.size.hi.x
 hi2 : s.set.size.hi.inf = 0 → (endE s.hi).inf = 0 ∧ (endE s.hi).x * (endE s.hi).x ≤ s.set.size.hi.x * s.set.size.hi.x
 lo1 : (endE s.lo).inf = 0 → s.set.size.lo.x * s.set.size.lo.x ≤ (endE s.lo).x * (endE s.lo).x
 lo2 : (endE s.hi).inf = 0 → s.set.size.lo.x * s.set.size.lo.x ≤ (endE s.hi).x * (endE s.hi).x
theorem u0w {s : Sk} (h : s.ok) (p : s.proper) : m0w s := by
 have zq := z0m h
 have p1 := p.1
 have a1 := n0g (n06 s.lo); have a2 := n0g (n06 s.hi)
 have abp : ∀ {k : Int}, inK k → 0 ≤ k → (endE k).abs = endE k := by
  intro k hk h0
  unfold Eb.abs; rw [Q0a hk, if_neg]; unfold cmpZ; split
  · omega
  · split <;> decide
 have abn : ∀ {k : Int}, inK k → k < 0 → (endE k).abs = (endE k).neg := by
  intro k hk h0
  unfold Eb.abs; rw [Q0a hk, if_pos]; rw [P0h h0]; decide
 have eH : s.set.size.hi = Eb.pick 1 [(endE s.lo).abs, (endE s.hi).abs] := by unfold Es.size; split <;> rfl
 have hiF : ∀ {e}, e ∈ [(endE s.lo).abs, (endE s.hi).abs] → Eb.Le e s.set.size.hi := by
  intro e he; rw [eH]; exact Eb.pick_first (way := 1) (.inl rfl) e he
 have hik : ∀ {k : Int}, (endE k).abs ∈ [(endE s.lo).abs, (endE s.hi).abs] → s.set.size.hi.inf = 0 → (endE k).inf = 0 ∧ (endE k).x * (endE k).x ≤ s.set.size.hi.x * s.set.size.hi.x := by
  intro k hk h0
  have hl := hiF hk
  have fin : (endE k).inf = 0 := by
   refine Classical.byContradiction fun c => ?_
   rw [A0m c (n06 k)] at hl
   exact hl (.inl (by show s.set.size.hi.inf < 1; omega))
  obtain ⟨b1, b2, b3⟩ := e0t fin
  have := N06 b2 (t05 b1 h0 hl)
  exact ⟨fin, by rw [b3] at this; exact this⟩
 by_cases z : s.set.zero = true
 · have eL : s.set.size.lo = Eb.fin 0 := by unfold Es.size; rw [if_pos z]
   rw [zq, Bool.and_eq_true, decide_eq_true_iff, decide_eq_true_iff] at z
   refine ⟨by rw [eL]; rfl, fun g => ?_, fun g => by omega, hik (by simp), hik (by simp), fun _ => ?_, fun _ => ?_⟩
   · rw [eL, show s.lo = 0 by omega, o06]
   · rw [eL]; show (0 : Rat) * 0 ≤ _; have := s00 (endE s.lo).x; grind
   · rw [eL]; show (0 : Rat) * 0 ≤ _; have := s00 (endE s.hi).x; grind
 · have eL : s.set.size.lo = Eb.pick (-1) [(endE s.lo).abs, (endE s.hi).abs] := by unfold Es.size; rw [if_neg z]; rfl
   have hl2 : 0 < s.lo ∨ s.hi < 0 := by
    refine Classical.byContradiction fun c => z ?_
    rw [zq, Bool.and_eq_true, decide_eq_true_iff, decide_eq_true_iff]; omega
   have pos : 0 ≤ s.lo → s.set.size.lo = endE s.lo := by
    intro g
    rw [eL, abp h.lo g, abp h.hi (by omega)]
    show (if (endE s.hi).cmp (endE s.lo) = -1 then endE s.hi else endE s.lo) = _
    rw [if_neg]
    intro c
    have := Eb.cmp_neg1.1 c
    rcases Int.lt_or_eq_of_le p1 with q | q
    · exact Eb.LT.irrefl (this.trans (b05 h.lo h.hi q))
    · rw [q] at this; exact Eb.LT.irrefl this
   have neg : s.hi < 0 → s.set.size.lo = (endE s.hi).neg := by
    intro g
    rw [eL, abn h.lo (by omega), abn h.hi g]
    show (if (endE s.hi).neg.cmp (endE s.lo).neg = -1 then (endE s.hi).neg else (endE s.lo).neg) = _
    rcases Int.lt_or_eq_of_le p1 with q | q
    · rw [if_pos]; rw [Eb.cmp_neg1, Eb.LT_neg]; exact b05 h.lo h.hi q
    · rw [q]; split <;> rfl
   have lo0 : s.set.size.lo.inf = 0 := by
    rcases hl2 with g | g
    · rw [pos (by omega)]
      rcases S0t p with q | q
      · exact q
      · have := b05 (k := 0) (l := s.lo) E07 h.lo g
        rw [o06, q] at this
        exact absurd this (e0d (Eb.fin_ok 0) 0)
    · rw [neg g]
      rcases T0t p with q | q
      · show -(endE s.hi).inf = 0; omega
      · have := b05 (k := s.hi) (l := 0) h.hi E07 g
        rw [o06, q] at this
        exact absurd this (C0u (Eb.fin_ok 0) 0)
   have nn : 0 ≤ s.set.size.lo.x := by
    have m := Eb.pick_in (way := -1) (es := [(endE s.lo).abs, (endE s.hi).abs]) (by simp)
    rw [← eL] at m
    simp only [List.mem_cons, List.not_mem_nil, or_false] at m
    rcases m with m | m
    · by_cases c : (endE s.lo).inf = 0
      · rw [m]; exact (e0t c).2.1
      · rw [m, A0m c (n06 _)]; exact Rat.le_refl
    · by_cases c : (endE s.hi).inf = 0
      · rw [m]; exact (e0t c).2.1
      · rw [m, A0m c (n06 _)]; exact Rat.le_refl
   have lok : ∀ {k : Int}, (endE k).abs ∈ [(endE s.lo).abs, (endE s.hi).abs] → (endE k).inf = 0 → s.set.size.lo.x * s.set.size.lo.x ≤ (endE k).x * (endE k).x := by
    intro k hk c
    obtain ⟨b1, b2, b3⟩ := e0t c
    have hl : Eb.Le s.set.size.lo (endE k).abs := by rw [eL]; exact Eb.pick_first (way := -1) (.inr rfl) _ hk
    have := N06 nn (t05 lo0 b1 hl)
    rw [b3] at this; exact this
   exact ⟨lo0, pos, neg, hik (by simp), hik (by simp), lok (by simp), lok (by simp)⟩

theorem C0m {x y q : Rat} (h : (q * q * 2) * (q * q * 2) - 2 * (q * q * 2) * x ≤ y * y) : rtP x (x * x + y * y) q := by
 by_cases d : rtD x q < 0
 · exact .inl d
 · refine .inr ?_
   unfold rtD; grind
theorem b0e {x y x' y' q : Rat} (hq : 0 ≤ q) (hx : x ≤ x') (hy : y * y ≤ y' * y') (h : rtP x (x * x + y * y) q) : rtP x' (x' * x' + y' * y') q := by
 have a := z0n hq h
 refine C0m ?_
 have b := Rat.mul_le_mul_of_nonneg_left hx (show 0 ≤ 2 * (q * q * 2) by have := s00 q; grind)
 grind
theorem A0r {x y x' y' q : Rat} (hq : 0 ≤ q) (hx : x ≤ x') (hy : y * y ≤ y' * y') (h : rtP x (x * x + y * y) q) (g : rtC x' (x' * x' + y' * y') q = 0) : rtC x (x * x + y * y) q = 0 := by
 have a := z0n hq h
 obtain ⟨g1, g2⟩ := P0a.1 g
 have b := Rat.mul_le_mul_of_nonneg_left hx (show 0 ≤ 2 * (q * q * 2) by have := s00 q; grind)
 refine P0a.2 ⟨by unfold rtD at g1 ⊢; grind, ?_⟩
 unfold rtD at g2 ⊢
 grind
theorem U00.mono {e f e' f' : Eb} {u u' : Bool} {k l : Nat} (h : U00 e f u k) (g : U00 e' f' u' l) (he : Eb.Le e e') (hf : f'.inf = 0 → f.inf = 0 ∧ f.x * f.x ≤ f'.x * f'.x) (hu : u = true → u' = true) : k ≤ l := by
 have kl := h.le
 unfold U00 at h g
 by_cases c : 0 < e'.inf ∨ f'.inf ≠ 0
 · rw [if_pos c] at g; omega
 rw [if_neg c] at g
 obtain ⟨f0, fx⟩ := hf (by omega)
 have ei : e.inf ≤ e'.inf := by
  refine Int.not_lt.1 fun q => he (.inl q)
 rw [if_neg (by omega)] at h
 by_cases d : e.inf < 0
 · rw [if_pos d] at h; omega
 rw [if_neg d] at h
 rw [if_neg (by omega)] at g
 obtain ⟨r, h1, h2⟩ := h
 obtain ⟨s, g1, g2⟩ := g
 have ex : e.x ≤ e'.x := t05 (by omega) (by omega) he
 have rs : r ≤ s := by
  refine Nat.not_lt.1 fun q => ?_
  rcases g1.next with n | n
  · have := h1.lt; omega
  · exact n (b0e (j03 _) ex fx (a0i _ _ _ _ (j03 _) (Z0d (by omega)) h1.le))
 by_cases q : r = s
 · subst q
   by_cases z : u = true ∧ rtC e.x (e.x * e.x + f.x * f.x) (fkq (r : Int)) ≠ 0
   · rw [if_pos z] at h2
     rw [if_pos ⟨hu z.1, fun w => z.2 (A0r (j03 _) ex fx h1.le w)⟩] at g2
     omega
   · rw [if_neg z] at h2
     split at g2 <;> omega
 · split at h2 <;> split at g2 <;> omega
def UpB (x y : Sk) (t : Bk) : Prop := ∃ k1 k2 k3 k4 : Nat, t = ⟨⟨(k1 : Int), (k2 : Int)⟩, ⟨(k3 : Int), (k4 : Int)⟩⟩ ∧ U00 (endE x.lo) (endE y.lo) false k1 ∧ U00 (endE x.hi) (endE y.hi) true k2 ∧ U00 (endE x.hi).neg (endE y.lo) false k3 ∧ U00 (endE x.lo).neg (endE y.hi) true k4
theorem l07 {k l : Int} (hk : inK k) (hl : inK l) (h : k ≤ l) : Eb.Le (endE k) (endE l) := by
 rcases Int.lt_or_eq_of_le h with q | q
 · intro g; exact Eb.LT.irrefl (g.trans (b05 hk hl q))
 · rw [q]; exact Eb.Le.refl _
theorem f0t {k l : Int} (hk : inK k) (hl : inK l) (h : k ≤ l) : Eb.Le (endE l).neg (endE k).neg := by
 rw [← a03, ← a03]; exact l07 (a0e hl) (a0e hk) (by omega)
theorem J0v {y : Sk} (p : y.proper) (h0 : 0 ≤ y.lo) : (endE y.lo).inf = 0 ∧ 0 ≤ (endE y.lo).x := by
 obtain ⟨p1, p2, p3⟩ := p
 have e : endE y.lo = ⟨0, fkq y.lo⟩ := by unfold endE; rw [if_neg p2, if_neg (by omega)]
 rw [e]; exact ⟨rfl, by have := Z0d h0; rw [F07] at this; exact this⟩
theorem y_le {y : Sk} (h : y.ok) (p : y.proper) (h0 : 0 ≤ y.lo) (hi : (endE y.hi).inf = 0) : (endE y.lo).inf = 0 ∧ (endE y.lo).x * (endE y.lo).x ≤ (endE y.hi).x * (endE y.hi).x := by
 obtain ⟨a, b⟩ := J0v p h0
 exact ⟨a, N06 b (t05 a hi (l07 h.lo h.hi p.1))⟩
theorem K0v {x : Sk} (p : x.proper) : (endE x.lo).inf ≤ 0 ∧ (endE x.hi).neg.inf ≤ 0 := by
 constructor
 · rcases S0t p with q | q
   · omega
   · rw [q]; decide
 · rcases T0t p with q | q
   · show -(endE x.hi).inf ≤ 0; omega
   · rw [q]; decide
theorem UpB.proper {x y : Sk} {t : Bk} (h : UpB x y t) (hx : x.ok) (px : x.proper) (hy : y.ok) (py : y.proper) (h0 : 0 ≤ y.lo) : t.ok ∧ t.proper := by
 obtain ⟨k1, k2, k3, k4, rfl, r1, r2, r3, r4⟩ := h
 have i := K0v px
 have f := J0v py h0
 have l1 := r1.low_fin i.1 f.1
 have l3 := r3.low_fin i.2 f.1
 have m1 := r1.mono r2 (l07 hx.lo hx.hi px.1) (y_le hy py h0) (fun g => absurd g (by decide))
 have m2 := r3.mono r4 (f0t hx.lo hx.hi px.1) (y_le hy py h0) (fun g => absurd g (by decide))
 have ip : 0 < infR := by decide
 refine ⟨⟨⟨m03 r1.le, m03 r2.le⟩, ⟨m03 r3.le, m03 r4.le⟩⟩, ⟨?_, ?_, ?_⟩, ⟨?_, ?_, ?_⟩⟩
 · show (k1 : Int) ≤ k2; omega
 · show (k1 : Int) ≠ infR; omega
 · show (k2 : Int) ≠ -(infR : Int); omega
 · show (k3 : Int) ≤ k4; omega
 · show (k3 : Int) ≠ infR; omega
 · show (k4 : Int) ≠ -(infR : Int); omega
theorem neg_neg (e : Eb) : e.neg.neg = e := by cases e; show Eb.mk (- -_) (- -_) = _; rw [Int.neg_neg, Rat.neg_neg]

theorem g09 {e f : Eb} (h : e.inf ≠ 0 ∨ f.inf ≠ 0) : e.mul f = ⟨e.sign * f.sign, 0⟩ := by unfold Eb.mul; rw [if_neg (by omega)]
theorem w0k {e : Eb} (h : e.inf = 0) : e.sign = cmpR e.x 0 := by
 show (if e.inf ≠ 0 ∨ (0 : Int) ≠ 0 then cmpZ e.inf 0 else cmpR e.x 0) = _
 rw [if_neg (by omega)]
theorem F0u {x : Rat} : 0 ≤ cmpR x 0 ↔ 0 ≤ x := by
 unfold cmpR
 by_cases c : x < 0
 · rw [if_pos c]; exact ⟨fun h => absurd h (by decide), fun h => by grind⟩
 · rw [if_neg c]; refine ⟨fun _ => Rat.not_lt.1 c, fun _ => ?_⟩; split <;> decide
theorem g0t {x : Rat} {c : Rat} : ¬ Eb.Le ⟨1, x⟩ ⟨0, c⟩ := fun h => h (.inl (by show (0 : Int) < 1; decide))
theorem B0r {x : Rat} {c : Rat} : ¬ Eb.Le ⟨0, c⟩ ⟨-1, x⟩ := fun h => h (.inl (by show (-1 : Int) < 0; decide))
theorem d0i {e : Eb} {x : Rat} (h : e.inf = 0) : ¬ Eb.Le e ⟨-1, x⟩ := fun g => g (.inl (by show (-1 : Int) < e.inf; omega))
theorem e0i {e : Eb} {x : Rat} (h : e.inf = 0) : ¬ Eb.Le ⟨1, x⟩ e := fun g => g (.inl (by show e.inf < 1; omega))
theorem D0m {a b : Eb} (ha : a.inf = 0) (hb : b.inf = 0) : a.add b = ⟨0, a.x + b.x⟩ := by unfold Eb.add; rw [if_neg (by omega), if_neg (by omega)]
theorem i0t {a b : Eb} (ha : a.inf ≠ 0) : a.add b = a := by unfold Eb.add; rw [if_pos ha]
theorem j0t {a b : Eb} (ha : a.inf = 0) (hb : b.inf ≠ 0) : a.add b = b := by unfold Eb.add; rw [if_neg (by omega), if_pos hb]
section
variable {b t : Bk} (hb : b.ok) (pb : b.proper) (h : b0i b t)
include hb pb h
end

def InE (a : Eb) (E : Es) : Prop := Eb.Le E.lo a ∧ Eb.Le a E.hi
structure Es.ok (E : Es) : Prop where
 lo : E.lo.ok
 hi : E.hi.ok
theorem m00 (s : Sk) : s.set.ok := ⟨n06 _, n06 _⟩
theorem C0r (a b : Es) : (a.mul b).ok := ⟨D0u a b, E0u a b⟩
theorem G07 {a b : Es} (h : a.ok) (k : b.ok) : (a.add b).ok := ⟨Eb.add_ok h.lo k.lo, Eb.add_ok h.hi k.hi⟩
theorem H07 {a : Es} (h : a.ok) : a.neg.ok := ⟨Eb.neg_ok h.hi, Eb.neg_ok h.lo⟩
theorem d04 {a b : Eb} : Eb.Le a.neg b.neg ↔ Eb.Le b a := by unfold Eb.Le; rw [Eb.LT_neg]
theorem InE.neg {a : Eb} {E : Es} (h : InE a E) : InE a.neg E.neg := ⟨d04.2 h.2, d04.2 h.1⟩
theorem G0u {a : Eb} (h : a.ok) : a = ⟨0, a.x⟩ ∨ a = ⟨1, 0⟩ ∨ a = ⟨-1, 0⟩ := by
 by_cases c : a.inf = 0
 · exact .inl (N05 c)
 · exact .inr (o0g h c)
theorem E0m (x : Rat) : (⟨0, x⟩ : Eb).sign = cmpR x 0 := w0k rfl
theorem H0u : (⟨1, 0⟩ : Eb).sign = 1 := by decide
theorem I0u : (⟨-1, 0⟩ : Eb).sign = -1 := by decide
theorem f0i {n m : Int} {x y : Rat} (h : n < m) : Eb.Le ⟨n, x⟩ ⟨m, y⟩ := by
 rintro (g | ⟨g1, g2, _⟩)
 · have g : m < n := g; omega
 · have g1 : m = 0 := g1; have g2 : n = 0 := g2; omega
theorem D0r {n m : Int} (h : n ≤ m) : Eb.Le ⟨n, 0⟩ ⟨m, 0⟩ := by
 rcases Int.lt_or_eq_of_le h with g | g
 · exact f0i g
 · rw [g]; exact Eb.Le.refl _
theorem k0t {b c : Eb} (h : Eb.Le b c) : b.sign ≤ c.sign := by
 have r1 : b.sign = -1 ∨ b.sign = 0 ∨ b.sign = 1 := Eb.cmp_range _ _
 have r2 : c.sign = -1 ∨ c.sign = 0 ∨ c.sign = 1 := Eb.cmp_range _ _
 have up : b.sign = 1 → c.sign = 1 := by
  intro g
  have g : Eb.LT (Eb.fin 0) b := Eb.cmp_1.1 g
  refine Eb.cmp_1.2 ?_
  rcases Eb.LT.weak (b := c) g with q | q
  · exact q
  · exact absurd q h
 have dn : c.sign = -1 → b.sign = -1 := by
  intro g
  have g : Eb.LT c (Eb.fin 0) := Eb.cmp_neg1.1 g
  refine Eb.cmp_neg1.2 ?_
  rcases Eb.LT.weak (b := b) g with q | q
  · exact absurd q h
  · exact q
 omega
theorem I07 {a b c : Eb} (ha : a.ok) (hb : b.ok) (hc : c.ok) (h0 : 0 ≤ a.sign) (h : Eb.Le b c) : Eb.Le (a.mul b) (a.mul c) := by
 have sm := k0t h
 by_cases ia : a.inf = 0
 · have x0 : 0 ≤ a.x := by rw [w0k ia] at h0; exact F0u.1 h0
   by_cases ib : b.inf = 0
   · by_cases ic : c.inf = 0
     · rw [N05 ia, N05 ib, N05 ic, O0b, O0b, s02]
       exact Rat.mul_le_mul_of_nonneg_left (t05 ib ic h) x0
     · rw [g09 (.inr ic)]
       rcases o0g hc ic with e | e
       · rw [e, H0u, Int.mul_one, N05 ia, N05 ib, O0b, E0m]
         by_cases z : a.x = 0
         · rw [z, Rat.zero_mul]; unfold cmpR; rw [if_neg (by grind), if_pos rfl]; exact Eb.Le.refl _
         · have : cmpR a.x 0 = 1 := by unfold cmpR; rw [if_neg (by grind), if_neg z]
           rw [this]; exact f0i (by decide)
       · rw [e] at h
         exact absurd h (d0i ib)
   · rw [g09 (.inr ib)]
     rcases o0g hb ib with e | e
     · rw [e] at h
       have ic : c.inf ≠ 0 := fun g => e0i g h
       rw [g09 (.inr ic)]
       exact D0r (Int.mul_le_mul_of_nonneg_left sm h0)
     · by_cases ic : c.inf = 0
       · rw [e, I0u, N05 ia, N05 ic, O0b, E0m]
         by_cases z : a.x = 0
         · rw [z, Rat.zero_mul]; unfold cmpR; rw [if_neg (by grind), if_pos rfl]; exact Eb.Le.refl _
         · have : cmpR a.x 0 = 1 := by unfold cmpR; rw [if_neg (by grind), if_neg z]
           rw [this]; exact f0i (by decide)
       · rw [g09 (.inr ic)]
         exact D0r (Int.mul_le_mul_of_nonneg_left sm h0)
 · rw [g09 (.inl ia), g09 (.inl ia)]
   exact D0r (Int.mul_le_mul_of_nonneg_left sm h0)
theorem f0d {a b c : Eb} (ha : a.ok) (hb : b.ok) (hc : c.ok) (h0 : a.sign ≤ 0) (h : Eb.Le b c) : Eb.Le (a.mul c) (a.mul b) := by
 have e : ∀ d : Eb, a.mul d = (a.neg.mul d).neg := fun d => by rw [Eb.mul_neg, Eb.neg_neg]
 rw [e b, e c, d04]
 exact I07 (Eb.neg_ok ha) hb hc (by rw [Eb.sign_neg]; omega) h
theorem InE.mul {a b : Eb} {E F : Es} (ha : a.ok) (hb : b.ok) (hE : E.ok) (hF : F.ok) (h : InE a E) (k : InE b F) : InE (a.mul b) (E.mul F) := by
 -- one of the first set's ends, for what is to be below or above
 have s1 : (∃ e, (e = E.lo ∨ e = E.hi) ∧ Eb.Le (e.mul b) (a.mul b)) ∧ (∃ e, (e = E.lo ∨ e = E.hi) ∧ Eb.Le (a.mul b) (e.mul b)) := by
  rw [Eb.mul_comm a b]
  by_cases c : 0 ≤ b.sign
  · exact ⟨⟨E.lo, .inl rfl, by rw [Eb.mul_comm E.lo]; exact I07 hb hE.lo ha c h.1⟩, ⟨E.hi, .inr rfl, by rw [Eb.mul_comm E.hi]; exact I07 hb ha hE.hi c h.2⟩⟩
  · exact ⟨⟨E.hi, .inr rfl, by rw [Eb.mul_comm E.hi]; exact f0d hb ha hE.hi (by omega) h.2⟩, ⟨E.lo, .inl rfl, by rw [Eb.mul_comm E.lo]; exact f0d hb hE.lo ha (by omega) h.1⟩⟩
 have s2 : ∀ e : Eb, e.ok → (∃ f, (f = F.lo ∨ f = F.hi) ∧ Eb.Le (e.mul f) (e.mul b)) ∧ (∃ f, (f = F.lo ∨ f = F.hi) ∧ Eb.Le (e.mul b) (e.mul f)) := by
  intro e he
  by_cases c : 0 ≤ e.sign
  · exact ⟨⟨F.lo, .inl rfl, I07 he hF.lo hb c k.1⟩, ⟨F.hi, .inr rfl, I07 he hb hF.hi c k.2⟩⟩
  · exact ⟨⟨F.hi, .inr rfl, f0d he hb hF.hi (by omega) k.2⟩, ⟨F.lo, .inl rfl, f0d he hF.lo hb (by omega) k.1⟩⟩
 have mem : ∀ e f, (e = E.lo ∨ e = E.hi) → (f = F.lo ∨ f = F.hi) → e.mul f ∈ Es.prods E F := by
  rintro e f (rfl | rfl) (rfl | rfl) <;> simp [Es.prods]
 have oke : ∀ e, (e = E.lo ∨ e = E.hi) → e.ok := by
  rintro e (rfl | rfl)
  · exact hE.lo
  · exact hE.hi
 obtain ⟨⟨e1, m1, p1⟩, ⟨e2, m2, p2⟩⟩ := s1
 obtain ⟨⟨f1, n1, q1⟩, _⟩ := s2 e1 (oke _ m1)
 obtain ⟨_, ⟨f2, n2, q2⟩⟩ := s2 e2 (oke _ m2)
 exact ⟨(y0r (mem _ _ m1 n1)).trans (q1.trans p1), p2.trans (q2.trans (z0r (mem _ _ m2 n2)))⟩
theorem g0i {a b c d : Eb} (ha : a.ok) (hb : b.ok) (hc : c.ok) (hd : d.ok) (na : a.inf ≤ 0) (nb : b.inf ≤ 0) (nc : c.inf ≤ 0) (nd : d.inf ≤ 0) (h : Eb.Le a c) (k : Eb.Le b d) : Eb.Le (a.add b) (c.add d) := by
 by_cases ia : a.inf = 0
 · by_cases ib : b.inf = 0
   · have ic : c.inf = 0 := by have : a.inf ≤ c.inf := Int.not_lt.1 fun g => h (.inl g)
                               omega
     have id : d.inf = 0 := by have : b.inf ≤ d.inf := Int.not_lt.1 fun g => k (.inl g)
                               omega
     rw [D0m ia ib, D0m ic id, s02]
     have h1 := t05 ia ic h
     have h2 := t05 ib id k
     grind
   · rw [j0t ia ib]
     rcases o0g hb ib with e | e
     · rw [e] at nb; exact absurd nb (by decide)
     · rw [e]; exact e0d (Eb.add_ok hc hd) 0
 · rw [i0t ia]
   rcases o0g ha ia with e | e
   · rw [e] at na; exact absurd na (by decide)
   · rw [e]; exact e0d (Eb.add_ok hc hd) 0
theorem x0k {a b c d : Eb} (ha : a.ok) (hb : b.ok) (hc : c.ok) (hd : d.ok) (na : 0 ≤ a.inf) (nb : 0 ≤ b.inf) (nc : 0 ≤ c.inf) (nd : 0 ≤ d.inf) (h : Eb.Le a c) (k : Eb.Le b d) : Eb.Le (a.add b) (c.add d) := by
 rw [← d04, Eb.neg_add, Eb.neg_add]
 exact g0i (Eb.neg_ok hc) (Eb.neg_ok hd) (Eb.neg_ok ha) (Eb.neg_ok hb) (by show -c.inf ≤ 0; omega) (by show -d.inf ≤ 0; omega) (by show -a.inf ≤ 0; omega) (by show -b.inf ≤ 0; omega) (d04.2 h) (d04.2 k)
def Es.fair (E : Es) : Prop := E.lo.inf ≤ 0 ∧ 0 ≤ E.hi.inf
theorem y02 {a : Eb} {E : Es} (ha : a.inf = 0) (h : InE a E) : E.fair := by
 refine ⟨?_, ?_⟩
 · have := fun g => h.1 (.inl g); rw [ha] at this; exact Int.not_lt.1 this
 · have := fun g => h.2 (.inl g); rw [ha] at this; exact Int.not_lt.1 this
theorem InE.add {x y : Rat} {E F : Es} (hE : E.ok) (hF : F.ok) (h : InE ⟨0, x⟩ E) (k : InE ⟨0, y⟩ F) : InE ⟨0, x + y⟩ (E.add F) := by
 have fE := y02 rfl h; have fF := y02 rfl k
 have e : (⟨0, x⟩ : Eb).add ⟨0, y⟩ = ⟨0, x + y⟩ := D0m rfl rfl
 rw [← e]
 exact ⟨g0i hE.lo hF.lo (.inl rfl) (.inl rfl) fE.1 fF.1 (Int.le_refl _) (Int.le_refl _) h.1 k.1, x0k (.inl rfl) (.inl rfl) hE.hi hF.hi (Int.le_refl _) (Int.le_refl _) fE.2 fF.2 h.2 k.2⟩
def Es.sub (E F : Es) : Prop := Eb.Le F.lo E.lo ∧ Eb.Le E.hi F.hi
theorem Es.sub.in {E F : Es} (h : E.sub F) {a : Eb} (k : InE a E) : InE a F := ⟨h.1.trans k.1, k.2.trans h.2⟩
theorem Es.sub.neg {E F : Es} (h : E.sub F) : E.neg.sub F.neg := ⟨d04.2 h.2, d04.2 h.1⟩
theorem Es.sub.add {E F G H : Es} (oE : E.ok) (oF : F.ok) (oG : G.ok) (oH : H.ok) (fE : E.fair) (fF : F.fair) (fG : G.fair) (fH : H.fair) (h : E.sub F) (k : G.sub H) : (E.add G).sub (F.add H) :=
 ⟨g0i oF.lo oH.lo oE.lo oG.lo fF.1 fH.1 fE.1 fG.1 h.1 k.1, x0k oE.hi oG.hi oF.hi oH.hi fE.2 fG.2 fF.2 fH.2 h.2 k.2⟩
theorem Es.sub.mul {E F G H : Es} (oE : E.ok) (oF : F.ok) (oG : G.ok) (oH : H.ok) (wE : Eb.Le E.lo E.hi) (wG : Eb.Le G.lo G.hi) (h : E.sub F) (k : G.sub H) : (E.mul G).sub (F.mul H) := by
 have m1 : InE E.lo F := ⟨h.1, wE.trans h.2⟩
 have m2 : InE E.hi F := ⟨h.1.trans wE, h.2⟩
 have n1 : InE G.lo H := ⟨k.1, wG.trans k.2⟩
 have n2 : InE G.hi H := ⟨k.1.trans wG, k.2⟩
 have all : ∀ e ∈ Es.prods E G, InE e (F.mul H) := by
  intro e he
  simp only [Es.prods, List.mem_cons, List.not_mem_nil, or_false] at he
  rcases he with rfl | rfl | rfl | rfl
  · exact InE.mul oE.lo oG.lo oF oH m1 n1
  · exact InE.mul oE.lo oG.hi oF oH m1 n2
  · exact InE.mul oE.hi oG.lo oF oH m2 n1
  · exact InE.mul oE.hi oG.hi oF oH m2 n2
 exact ⟨(all _ (Eb.pick_in (k02 E G))).1, (all _ (Eb.pick_in (k02 E G))).2⟩
theorem m07 {a b : Eb} : a.cmp b ≤ 0 ↔ Eb.Le a b := by
 have r := Eb.cmp_range a b
 unfold Eb.Le; rw [← Eb.cmp_1]; omega
theorem E0r {s : Sk} {q : Rat} : s.has q = true ↔ InE ⟨0, q⟩ s.set := by
 unfold Sk.has InE; rw [Bool.and_eq_true, decide_eq_true_iff, decide_eq_true_iff, m07, m07]; rfl
theorem L0p {a b : Rat} (h : a ≤ b) : g01 a ≤ g01 b := by
 have b1 := c05 b
 have i1 := M04 a; have i2 := M04 b
 unfold inK at i1 i2
 have hl : Eb.Le (endE (g01 a)) ⟨0, b⟩ := Eb.Le.trans (a05 a) (s02.2 h)
 refine Int.not_lt.1 fun g => hl ?_
 by_cases e : g01 b + 1 = g01 a
 · rw [← e]; exact b1.2
 · exact b1.2.trans (b05 ⟨by omega, by omega⟩ (M04 a) (by omega))
theorem q0c {E F : Es} (oE : E.lo.ok) (fE : E.lo.inf ≤ 0) (h : Eb.Le F.lo E.lo) : F.span.lo ≤ E.span.lo := by
 show (if F.lo.inf = 0 then g01 F.lo.x else -(infR : Int)) ≤ (if E.lo.inf = 0 then g01 E.lo.x else -(infR : Int))
 by_cases c : E.lo.inf = 0
 · rw [if_pos c]
   by_cases d : F.lo.inf = 0
   · rw [if_pos d]; exact L0p (t05 d c h)
   · rw [if_neg d]; exact (M04 _).1
 · rw [if_neg c]
   rcases o0g oE c with e | e
   · rw [e] at fE; exact absurd fE (by decide)
   · have d : F.lo.inf ≠ 0 := fun g => by rw [e] at h; exact d0i g h
     rw [if_neg d]; exact Int.le_refl _
theorem g0d {E F : Es} (oE : E.ok) (fE : E.fair) (h : E.sub F) : E.span.isIn F.span = true := by
 refine x0r (q0c oE.lo fE.1 h.1) ?_
 have := q0c (E := E.neg) (F := F.neg) (Eb.neg_ok oE.hi) (by show -E.hi.inf ≤ 0; have := fE.2; omega) (d04.2 h.2)
 rw [u06, u06] at this
 have this : -F.span.hi ≤ -E.span.hi := this
 omega
theorem p0g {E : Es} (oE : E.lo.ok) (fE : E.lo.inf ≤ 0) : Eb.Le (endE E.span.lo) E.lo := by
 show Eb.Le (endE (if E.lo.inf = 0 then g01 E.lo.x else -(infR : Int))) E.lo
 by_cases c : E.lo.inf = 0
 · rw [if_pos c]
   have := a05 E.lo.x
   rw [← N05 c] at this; exact this
 · rw [if_neg c, d0t]; exact e0d oE 0
theorem F0m {E : Es} (oE : E.ok) {q : Rat} (h : InE ⟨0, q⟩ E) : InE ⟨0, q⟩ E.span.set := by
 have f := y02 rfl h
 refine ⟨(p0g oE.lo f.1).trans h.1, ?_⟩
 have := p0g (E := E.neg) (Eb.neg_ok oE.hi) (by show -E.hi.inf ≤ 0; have := f.2; omega)
 rw [u06] at this
 have this : Eb.Le (endE (-E.span.hi)) E.hi.neg := this
 rw [a03, d04] at this
 exact h.2.trans this
theorem l0t {E : Es} (oE : E.ok) {q : Rat} (h : InE ⟨0, q⟩ E) : E.span.has q = true := E0r.2 (F0m oE h)

def shF (x y : Rat) : Rat := x / (x * x + y * y)
theorem e04 (x y : Rat) : X00 ⟨0, x⟩ ⟨0, y⟩ = ⟨0, shF x y⟩ := by
 unfold X00 shF; rw [if_neg]; rintro (h | h) <;> exact h rfl
theorem c0e {a b : Eb} (h : a.inf ≠ 0 ∨ b.inf ≠ 0) : X00 a b = ⟨0, 0⟩ := by unfold X00; rw [if_pos h]
theorem L0v (x y : Rat) : 0 ≤ x * x + y * y := by have := s00 x; have := s00 y; grind
theorem U0t {x y : Rat} (h : 0 ≤ x) : 0 ≤ shF x y := by
 unfold shF
 by_cases c : x * x + y * y = 0
 · rw [c, Rat.div_def, Rat.inv_zero, Rat.mul_zero]; exact Rat.le_refl
 · have d := L0v x y
   rw [Rat.div_def]; exact Rat.mul_nonneg h (Rat.le_of_lt (Rat.inv_pos.2 (by grind)))
theorem M0v {x y : Rat} (h : x ≤ 0) : shF x y ≤ 0 := by
 have := U0t (x := -x) (y := y) (by grind)
 have e : shF (-x) y = -shF x y := by
  unfold shF
  have e1 : -x * -x = x * x := by grind
  rw [e1, Rat.div_def, Rat.div_def, Rat.neg_mul]
 grind
theorem d0e {a b c d : Rat} (hb : 0 < b) (hd : 0 < d) (h : a * d ≤ c * b) : a / b ≤ c / d := by
 refine Rat.not_lt.1 fun g => ?_
 have g := (Rat.div_lt_iff hd).1 g
 have g := Rat.mul_lt_mul_of_pos_right g hb
 have e : a / b * d * b = a * d := by
  have := Rat.div_mul_cancel (a := a) (b := b) (by grind)
  grind
 rw [e] at g
 grind
theorem q0g {x y : Rat} (h : x ≠ 0) : 0 < x * x + y * y := by
 have a := s00 x; have b := s00 y
 have : x * x ≠ 0 := fun e => by rcases Rat.mul_eq_zero.1 e with g | g <;> exact h g
 grind
theorem M0p {x p t : Rat} (hx : x ≠ 0) (hp : p ≠ 0) (h : (x - p) * (t * t - x * p) ≤ 0) : shF x t ≤ shF p t :=
 d0e (q0g hx) (q0g hp) (by grind)
theorem N0v {x y t : Rat} (hx : 0 < x) (h : t * t ≤ y * y) : shF x y ≤ shF x t := by
 refine d0e (q0g (by grind)) (q0g (by grind)) ?_
 have := Rat.mul_le_mul_of_nonneg_left h (Rat.le_of_lt hx); grind
theorem O0v {x y t : Rat} (hx : x < 0) (h : y * y ≤ t * t) : shF x y ≤ shF x t := by
 refine d0e (q0g (by grind)) (q0g (by grind)) ?_
 have := Rat.mul_le_mul_of_nonneg_left h (show 0 ≤ -x by grind); grind
theorem J03 {X Y : Es} {a b : Eb} (ha : a = X.lo ∨ a = X.hi) (hb : b = Y.lo ∨ b = Y.hi) : X00 a b ∈ e03 X Y := by
 rw [Z04, F06, F06]
 rcases ha with rfl | rfl <;> rcases hb with rfl | rfl <;> simp
theorem m0t {X Y : Es} {a : Eb} (ha : a = X.lo ∨ a = X.hi) (hz : Y.zero = true) (hs : a.sign ≠ 0) : X00 a (Eb.fin 0) ∈ e03 X Y := by
 have : X00 a (Eb.fin 0) ∈ rowZ Y a := by unfold rowZ; rw [if_pos ⟨hz, hs⟩]; simp
 rw [Z04, F06, F06]
 rcases ha with rfl | rfl
 · exact .inl (.inl (.inr (.inr this)))
 · exact .inl (.inr (.inr (.inr this)))
theorem n0t {X Y : Es} {a b : Eb} (hb : b = Y.lo ∨ b = Y.hi) (ha : a = b ∨ a = b.neg) (h0 : b.inf = 0) (hs : b.sign ≠ 0) (h1 : Eb.Le X.lo a) (h2 : Eb.Le a X.hi) : X00 a b ∈ e03 X Y := by
 have : X00 a b ∈ colB X b a := by unfold colB; rw [if_pos ⟨h0, hs, m07.2 h1, m07.2 h2⟩]; simp
 rw [Z04, f09, f09]
 rcases hb with rfl | rfl <;> rcases ha with rfl | rfl
 · exact .inr (.inl (.inl this))
 · exact .inr (.inl (.inr this))
 · exact .inr (.inr (.inl this))
 · exact .inr (.inr (.inr this))
theorem s0g {a : Eb} : 0 ≤ a.sign ↔ Eb.Le (Eb.fin 0) a := by
 have r : a.sign = -1 ∨ a.sign = 0 ∨ a.sign = 1 := Eb.cmp_range _ _
 have k : a.sign = -1 ↔ Eb.LT a (Eb.fin 0) := Eb.cmp_neg1
 unfold Eb.Le; rw [← k]; omega
theorem F0r {a : Eb} : a.sign ≤ 0 ↔ Eb.Le a (Eb.fin 0) := by
 have r : a.sign = -1 ∨ a.sign = 0 ∨ a.sign = 1 := Eb.cmp_range _ _
 have k : a.sign = 1 ↔ Eb.LT (Eb.fin 0) a := Eb.cmp_1
 unfold Eb.Le; rw [← k]; omega
theorem G06 {E : Es} : E.zero = true ↔ Eb.Le E.lo (Eb.fin 0) ∧ Eb.Le (Eb.fin 0) E.hi := by
 unfold Es.zero; rw [Bool.and_eq_true, decide_eq_true_iff, decide_eq_true_iff, F0r, s0g]
theorem le_total {a b : Eb} : Eb.Le a b ∨ Eb.Le b a := by
 by_cases c : Eb.LT b a
 · exact .inr fun g => Eb.LT.irrefl (c.trans g)
 · exact .inl c
theorem P0b {a : Eb} (ha : a.ok) {x y : Rat} (h1 : Eb.Le ⟨0, x⟩ a) (h2 : Eb.Le a ⟨0, y⟩) : a = ⟨0, a.x⟩ ∧ x ≤ a.x ∧ a.x ≤ y := by
 rcases G0u ha with e | e | e
 · rw [e] at h1 h2; exact ⟨e, s02.1 h1, s02.1 h2⟩
 · rw [e] at h2; exact absurd h2 g0t
 · rw [e] at h1; exact absurd h1 B0r
theorem y0k {X Y : Es} (oX : X.ok) (oY : Y.ok) {x y : Rat} (hx : InE ⟨0, x⟩ X) (hy : InE ⟨0, y⟩ Y) (h0 : x ≤ 0) : ∃ e ∈ e03 X Y, Eb.Le ⟨0, shF x y⟩ e := by
 have np := M0v (x := x) (y := y) h0
 have zero : ∀ {a b : Eb}, (a = X.lo ∨ a = X.hi) → (b = Y.lo ∨ b = Y.hi) → (a.inf ≠ 0 ∨ b.inf ≠ 0) → ∃ e ∈ e03 X Y, Eb.Le ⟨0, shF x y⟩ e := by
  intro a b ha hb hi
  refine ⟨_, J03 ha hb, ?_⟩
  rw [c0e hi, s02]; exact np
 by_cases i1 : X.lo.inf = 0
 · by_cases i2 : X.hi.inf = 0
   · by_cases i3 : Y.lo.inf = 0
     · by_cases i4 : Y.hi.inf = 0
       · obtain ⟨p, hp⟩ : ∃ p, X.lo = ⟨0, p⟩ := ⟨_, N05 i1⟩
         obtain ⟨q, hq⟩ : ∃ q, X.hi = ⟨0, q⟩ := ⟨_, N05 i2⟩
         obtain ⟨c, hc⟩ : ∃ c, Y.lo = ⟨0, c⟩ := ⟨_, N05 i3⟩
         obtain ⟨d, hd⟩ : ∃ d, Y.hi = ⟨0, d⟩ := ⟨_, N05 i4⟩
         have x1 : p ≤ x := by have := hx.1; rw [hp] at this; exact s02.1 this
         have x2 : x ≤ q := by have := hx.2; rw [hq] at this; exact s02.1 this
         have y1 : c ≤ y := by have := hy.1; rw [hc] at this; exact s02.1 this
         have y2 : y ≤ d := by have := hy.2; rw [hd] at this; exact s02.1 this
         by_cases q0 : 0 ≤ q
         · refine ⟨_, J03 (.inr rfl) (.inl rfl), ?_⟩
           rw [hq, hc, e04, s02]
           exact Rat.le_trans np (U0t q0)
         · -- the farther end of the second set
           have far : ∃ t, (⟨0, t⟩ = Y.lo ∨ ⟨0, t⟩ = Y.hi) ∧ y * y ≤ t * t := by
            by_cases s : 0 ≤ y
            · exact ⟨d, .inr hd.symm, N06 s y2⟩
            · refine ⟨c, .inl hc.symm, ?_⟩
              have := N06 (a := -y) (b := -c) (by grind) (by grind)
              grind
           obtain ⟨t, ht, yt⟩ := far
           have xn : x < 0 := by grind
           have g1 := O0v xn yt
           by_cases s : t * t ≤ x * p
           · refine ⟨_, J03 (.inl rfl) ht, ?_⟩
             rw [hp, e04, s02]
             refine Rat.le_trans g1 (M0p (by grind) (by grind) ?_)
             have := Rat.mul_nonneg (show 0 ≤ x - p by grind) (show 0 ≤ x * p - t * t by grind)
             grind
           · refine ⟨_, J03 (.inr rfl) ht, ?_⟩
             rw [hq, e04, s02]
             refine Rat.le_trans g1 (M0p (by grind) (by grind) ?_)
             have k : x * q ≤ x * p := by
              have := Rat.mul_nonneg (show 0 ≤ -x by grind) (show 0 ≤ q - p by grind); grind
             have := Rat.mul_nonneg (show 0 ≤ q - x by grind) (show 0 ≤ t * t - x * q by grind)
             grind
       · exact zero (.inl rfl) (.inr rfl) (.inr i4)
     · exact zero (.inl rfl) (.inl rfl) (.inr i3)
   · exact zero (.inr rfl) (.inl rfl) (.inl i2)
 · exact zero (.inl rfl) (.inl rfl) (.inl i1)
theorem z0k {X Y : Es} (oX : X.ok) (oY : Y.ok) {x y : Rat} (hx : InE ⟨0, x⟩ X) (hy : InE ⟨0, y⟩ Y) (h0 : 0 < x) (hz : ¬ (X.zero = true ∧ Y.zero = true)) : ∃ e ∈ e03 X Y, Eb.Le ⟨0, shF x y⟩ e := by
 have hi0 : Eb.Le (Eb.fin 0) X.hi := Eb.Le.trans (s02.2 (Rat.le_of_lt h0)) hx.2
 by_cases z : Y.zero = true
 · have nz : ¬ Eb.Le X.lo (Eb.fin 0) := fun g => hz ⟨G06.2 ⟨g, hi0⟩, z⟩
   have lo0 : Eb.Le (Eb.fin 0) X.lo := le_total.resolve_right nz
   obtain ⟨e, a, b⟩ := P0b oX.lo lo0 hx.1
   have p0 : 0 < X.lo.x := by
    refine Rat.not_le.1 fun g => nz ?_
    rw [e]; exact s02.2 g
   have sg : X.lo.sign ≠ 0 := fun g => nz (F0r.1 (by omega))
   refine ⟨_, m0t (.inl rfl) z sg, ?_⟩
   rw [e]
   show Eb.Le _ (X00 ⟨0, X.lo.x⟩ ⟨0, 0⟩)
   rw [e04, s02]
   refine Rat.le_trans (N0v (t := 0) h0 (by have := s00 y; grind)) (M0p (by grind) (by grind) ?_)
   have k1 := Rat.mul_nonneg (show 0 ≤ x - X.lo.x by grind) (Rat.mul_nonneg (Rat.le_of_lt h0) (Rat.le_of_lt p0))
   grind
 · -- the nearer end of the second set
   have near : ∃ t, (⟨0, t⟩ = Y.lo ∨ ⟨0, t⟩ = Y.hi) ∧ t * t ≤ y * y ∧ t ≠ 0 := by
    by_cases c : Eb.Le Y.lo (Eb.fin 0)
    · have d : ¬ Eb.Le (Eb.fin 0) Y.hi := fun g => z (G06.2 ⟨c, g⟩)
      have d2 : Eb.Le Y.hi (Eb.fin 0) := le_total.resolve_left d
      obtain ⟨e, a, b⟩ := P0b oY.hi hy.2 d2
      refine ⟨Y.hi.x, .inr e.symm, ?_, fun g => d ?_⟩
      · have := N06 (a := -Y.hi.x) (b := -y) (by grind) (by grind); grind
      · rw [e, g]; exact Eb.Le.refl _
    · have d2 : Eb.Le (Eb.fin 0) Y.lo := le_total.resolve_left c
      obtain ⟨e, a, b⟩ := P0b oY.lo d2 hy.1
      refine ⟨Y.lo.x, .inl e.symm, N06 a b, fun g => c ?_⟩
      rw [e, g]; exact Eb.Le.refl _
   obtain ⟨t, ht, ty, tn⟩ := near
   have g1 := N0v h0 ty
   have sg : (⟨0, t⟩ : Eb).sign ≠ 0 := by
    rw [E0m]; unfold cmpR
    by_cases c : t < 0
    · rw [if_pos c]; decide
    · rw [if_neg c, if_neg tn]; decide
   obtain ⟨m, hm, m0, mm⟩ : ∃ m : Rat, ((⟨0, m⟩ : Eb) = ⟨0, t⟩ ∨ (⟨0, m⟩ : Eb) = (⟨0, t⟩ : Eb).neg) ∧ 0 < m ∧ m * m = t * t := by
    by_cases s : 0 ≤ t
    · exact ⟨t, .inl rfl, by grind, rfl⟩
    · exact ⟨-t, .inr (by unfold Eb.neg; simp), by grind, by grind⟩
   by_cases c1 : Eb.Le X.lo ⟨0, m⟩
   · by_cases c2 : Eb.Le ⟨0, m⟩ X.hi
     · refine ⟨_, n0t ht hm rfl sg c1 c2, ?_⟩
       rw [e04, s02]
       refine Rat.le_trans g1 (M0p (by grind) (by grind) ?_)
       have k := Rat.mul_nonneg (s00 (x - m)) (Rat.le_of_lt m0)
       rw [← mm]
       have e : (x - m) * (m * m - x * m) = -((x - m) * (x - m) * m) := by grind
       rw [e]; grind
     · have c3 : Eb.Le X.hi ⟨0, m⟩ := le_total.resolve_left c2
       obtain ⟨e, a, b⟩ := P0b oX.hi hx.2 c3
       refine ⟨_, J03 (.inr rfl) ht, ?_⟩
       rw [e, e04, s02]
       refine Rat.le_trans g1 (M0p (by grind) (by grind) ?_)
       have k1 : x * X.hi.x ≤ m * m := by
        have := Rat.mul_le_mul_of_nonneg_left (show X.hi.x ≤ m by grind) (Rat.le_of_lt h0)
        have := Rat.mul_le_mul_of_nonneg_right (show x ≤ m by grind) (Rat.le_of_lt m0)
        grind
       have := Rat.mul_nonneg (show 0 ≤ X.hi.x - x by grind) (show 0 ≤ t * t - x * X.hi.x by grind)
       grind
   · have c3 : Eb.Le ⟨0, m⟩ X.lo := le_total.resolve_left c1
     obtain ⟨e, a, b⟩ := P0b oX.lo c3 hx.1
     refine ⟨_, J03 (.inl rfl) ht, ?_⟩
     rw [e, e04, s02]
     refine Rat.le_trans g1 (M0p (by grind) (by grind) ?_)
     have k1 : m * m ≤ x * X.lo.x := by
      have := Rat.mul_le_mul_of_nonneg_left (show m ≤ X.lo.x by grind) (Rat.le_of_lt m0)
      have := Rat.mul_le_mul_of_nonneg_right (show m ≤ x by grind) (show 0 ≤ X.lo.x by grind)
      grind
     have := Rat.mul_nonneg (show 0 ≤ x - X.lo.x by grind) (show 0 ≤ x * X.lo.x - t * t by grind)
     grind
theorem A0n {X Y : Es} (oX : X.ok) (oY : Y.ok) {a b : Eb} (ha : a.ok) (hb : b.ok) (hx : InE a X) (hy : InE b Y) (hz : ¬ (X.zero = true ∧ Y.zero = true)) : ∃ e ∈ e03 X Y, Eb.Le (X00 a b) e := by
 have zero : ∀ {c d : Eb}, (c = X.lo ∨ c = X.hi) → (d = Y.lo ∨ d = Y.hi) → (c.inf ≠ 0 ∨ d.inf ≠ 0) → (a.inf ≠ 0 ∨ b.inf ≠ 0) → ∃ e ∈ e03 X Y, Eb.Le (X00 a b) e := by
  intro c d hc hd hi hk
  refine ⟨_, J03 hc hd, ?_⟩
  rw [c0e hi, c0e hk]; exact Eb.Le.refl _
 rcases G0u ha with e | e | e
 · rcases G0u hb with f | f | f
   · rw [e] at hx; rw [f] at hy
     rw [e, f, e04]
     by_cases c : a.x ≤ 0
     · exact y0k oX oY hx hy c
     · exact z0k oX oY hx hy (Rat.not_le.1 c) hz
   · refine zero (.inl rfl) (.inr rfl) (.inr fun g => ?_) (.inr (by rw [f]; decide))
     have := hy.2; rw [f] at this; exact e0i g this
   · refine zero (.inl rfl) (.inl rfl) (.inr fun g => ?_) (.inr (by rw [f]; decide))
     have := hy.1; rw [f] at this; exact d0i g this
 · refine zero (.inr rfl) (.inl rfl) (.inl fun g => ?_) (.inl (by rw [e]; decide))
   have := hx.2; rw [e] at this; exact e0i g this
 · refine zero (.inl rfl) (.inl rfl) (.inl fun g => ?_) (.inl (by rw [e]; decide))
   have := hx.1; rw [e] at this; exact d0i g this
theorem InE.share {X Y : Es} (oX : X.ok) (oY : Y.ok) {a b : Eb} (ha : a.ok) (hb : b.ok) (hx : InE a X) (hy : InE b Y) (hz : ¬ (X.zero = true ∧ Y.zero = true)) : InE (X00 a b) (X.share Y) := by
 refine ⟨?_, ?_⟩
 · obtain ⟨e, m, h⟩ := A0n (H07 oX) oY (Eb.neg_ok ha) hb hx.neg hy (by rw [Es.zero_neg]; exact hz)
   have k : Eb.Le e (X.neg.share Y).hi := Eb.pick_first (way := 1) (.inl rfl) e m
   have := h.trans k
   rw [E05, w0m] at this
   exact d04.1 this
 · obtain ⟨e, m, h⟩ := A0n oX oY ha hb hx hy hz
   exact h.trans (Eb.pick_first (way := 1) (.inl rfl) e m)

theorem A0k {a : Eb} (h : a.ok) : Eb.Le (Eb.fin 0) a.abs := by
 unfold Eb.abs; split
 · rename_i c
   have := d04.2 (F0r.1 (show a.sign ≤ 0 by omega))
   rwa [show (Eb.fin 0).neg = Eb.fin 0 from Eb.zero_neg] at this
 · rename_i c; exact s0g.1 (by omega)
theorem s08 {a : Eb} (h : Eb.Le (Eb.fin 0) a) : a.abs = a := by
 have := s0g.2 h
 unfold Eb.abs; rw [if_neg (by omega)]
theorem N0p {a : Eb} (h : ¬ Eb.Le (Eb.fin 0) a) : a.abs = a.neg := by
 have : ¬ 0 ≤ a.sign := fun g => h (s0g.1 g)
 unfold Eb.abs; rw [if_pos (by omega)]
theorem S0a {a : Eb} (ha : a.ok) (h : Eb.Le a (Eb.fin 0)) : a.abs = a.neg := by
 by_cases c : Eb.Le (Eb.fin 0) a
 · have e : a = Eb.fin 0 := Eb.LT.tri ha (.inl rfl) c h
   rw [s08 c, e]; exact Eb.zero_neg.symm
 · exact N0p c
theorem Y09 (E : Es) : E.size.hi = E.lo.abs ∨ E.size.hi = E.hi.abs := by
 have eH : E.size.hi = Eb.pick 1 [E.lo.abs, E.hi.abs] := by unfold Es.size; split <;> rfl
 have m := Eb.pick_in (way := 1) (es := [E.lo.abs, E.hi.abs]) (by simp)
 rw [← eH] at m; simpa using m
theorem t0g (E : Es) {e : Eb} (h : e = E.lo.abs ∨ e = E.hi.abs) : Eb.Le e E.size.hi := by
 have eH : E.size.hi = Eb.pick 1 [E.lo.abs, E.hi.abs] := by unfold Es.size; split <;> rfl
 rw [eH]; exact Eb.pick_first (way := 1) (.inl rfl) e (by rcases h with rfl | rfl <;> simp)
theorem p06 (E : Es) : (E.zero = true ∧ E.size.lo = Eb.fin 0) ∨ (E.zero ≠ true ∧ (E.size.lo = E.lo.abs ∨ E.size.lo = E.hi.abs) ∧ ∀ e, e = E.lo.abs ∨ e = E.hi.abs → Eb.Le E.size.lo e) := by
 by_cases c : E.zero = true
 · exact .inl ⟨c, by unfold Es.size; rw [if_pos c]⟩
 · have eL : E.size.lo = Eb.pick (-1) [E.lo.abs, E.hi.abs] := by unfold Es.size; rw [if_neg c]
   refine .inr ⟨c, ?_, fun e h => ?_⟩
   · have m := Eb.pick_in (way := -1) (es := [E.lo.abs, E.hi.abs]) (by simp)
     rw [← eL] at m; simpa using m
   · rw [eL]; exact Eb.pick_first (way := -1) (.inr rfl) e (by rcases h with rfl | rfl <;> simp)
theorem i0d {E : Es} (h : E.ok) : E.size.ok := by
 have a1 := n0g h.lo; have a2 := n0g h.hi
 constructor
 · rcases p06 E with ⟨_, e⟩ | ⟨_, e | e, _⟩
   · rw [e]; exact .inl rfl
   · rw [e]; exact a1
   · rw [e]; exact a2
 · rcases Y09 E with e | e <;> rw [e] <;> assumption
theorem InE.abs {a : Eb} {E : Es} (ha : a.ok) (oE : E.ok) (h : InE a E) : InE a.abs E.size := by
 constructor
 · rcases p06 E with ⟨_, e⟩ | ⟨z, _, le⟩
   · rw [e]; exact A0k ha
   · by_cases c : Eb.Le E.lo (Eb.fin 0)
     · have d : ¬ Eb.Le (Eb.fin 0) E.hi := fun g => z (G06.2 ⟨c, g⟩)
       have d2 : Eb.Le E.hi (Eb.fin 0) := le_total.resolve_left d
       refine (le _ (.inr rfl)).trans ?_
       rw [S0a oE.hi d2, S0a ha (h.2.trans d2), d04]; exact h.2
     · have d2 : Eb.Le (Eb.fin 0) E.lo := le_total.resolve_left c
       refine (le _ (.inl rfl)).trans ?_
       rw [s08 d2, s08 (d2.trans h.1)]; exact h.1
 · by_cases c : Eb.Le (Eb.fin 0) a
   · refine Eb.Le.trans ?_ (t0g E (.inr rfl))
     rw [s08 c, s08 (c.trans h.2)]; exact h.2
   · have c2 : Eb.Le a (Eb.fin 0) := le_total.resolve_left c
     refine Eb.Le.trans ?_ (t0g E (.inl rfl))
     rw [S0a ha c2, S0a oE.lo (h.1.trans c2), d04]; exact h.1
theorem i0i {E : Es} (oE : E.ok) : Eb.Le (Eb.fin 0) E.size.lo ∧ Eb.Le (Eb.fin 0) E.size.hi := by
 have a1 := A0k oE.lo; have a2 := A0k oE.hi
 constructor
 · rcases p06 E with ⟨_, e⟩ | ⟨_, e | e, _⟩
   · rw [e]; exact Eb.Le.refl _
   · rw [e]; exact a1
   · rw [e]; exact a2
 · rcases Y09 E with e | e <;> rw [e] <;> assumption
theorem Es.sub.size {E F : Es} (oE : E.ok) (oF : F.ok) (w : Eb.Le E.lo E.hi) (h : E.sub F) : E.size.sub F.size := by
 have m1 : InE E.lo F := ⟨h.1, w.trans h.2⟩
 have m2 : InE E.hi F := ⟨h.1.trans w, h.2⟩
 have n1 := m1.abs oE.lo oF; have n2 := m2.abs oE.hi oF
 constructor
 · rcases p06 E with ⟨z, e⟩ | ⟨_, e | e, _⟩
   · obtain ⟨z1, z2⟩ := G06.1 z
     have zF : F.zero = true := G06.2 ⟨h.1.trans z1, z2.trans h.2⟩
     rcases p06 F with ⟨_, f⟩ | ⟨f, _⟩
     · rw [e, f]; exact Eb.Le.refl _
     · exact absurd zF f
   · rw [e]; exact n1.1
   · rw [e]; exact n2.1
 · rcases Y09 E with e | e <;> rw [e]
   · exact n1.2
   · exact n2.2
theorem o0t {a b : Eb} (ha : a.ok) (hb : b.ok) (h0 : Eb.Le (Eb.fin 0) a) (h : Eb.Le a b) : Eb.Le (a.mul a) (b.mul b) := by
 have p := I07 ha ha hb (s0g.2 h0) h
 have q := I07 hb ha hb (s0g.2 (h0.trans h)) h
 rw [Eb.mul_comm b a] at q
 exact p.trans q
theorem y04 {E : Es} : E.square.ok := ⟨Eb.mul_ok _ _, Eb.mul_ok _ _⟩
theorem InE.square {x : Rat} {E : Es} (oE : E.ok) (h : InE ⟨0, x⟩ E) : InE ⟨0, x * x⟩ E.square := by
 have s := i0d oE
 have n := h.abs (.inl rfl) oE
 have nn := i0i oE
 have e : (⟨0, x⟩ : Eb).abs.mul (⟨0, x⟩ : Eb).abs = ⟨0, x * x⟩ := by rw [F0v, O0b]
 have oa : (⟨0, x⟩ : Eb).abs.ok := n0g (.inl rfl)
 rw [← e]
 exact ⟨o0t s.lo oa nn.1 n.1, o0t oa s.hi (A0k (.inl rfl)) n.2⟩
theorem Es.sub.square {E F : Es} (oE : E.ok) (oF : F.ok) (w : Eb.Le E.lo E.hi) (h : E.sub F) : E.square.sub F.square := by
 have s := h.size oE oF w
 have a := i0d oE; have b := i0d oF
 exact ⟨o0t b.lo a.lo (i0i oF).1 s.1, o0t a.hi b.hi (i0i oE).2 s.2⟩
theorem T0a (X Y : Es) : (X.share Y).ok := by
 have ne : e03 X Y ≠ [] := fun e => by
  have := J03 (X := X) (Y := Y) (.inl rfl) (.inl rfl); rw [e] at this; simp at this
 exact ⟨k07 X Y _ (Eb.pick_in ne), k07 X Y _ (Eb.pick_in ne)⟩
theorem G0r {X Y : Es} (oX : X.ok) (oY : Y.ok) (wX : Eb.Le X.lo X.hi) (wY : Eb.Le Y.lo Y.hi) {e : Eb} (h : e ∈ e03 X Y) : ∃ a b : Eb, a.ok ∧ b.ok ∧ InE a X ∧ InE b Y ∧ e = X00 a b := by
 have x1 : InE X.lo X := ⟨Eb.Le.refl _, wX⟩
 have x2 : InE X.hi X := ⟨wX, Eb.Le.refl _⟩
 have y1 : InE Y.lo Y := ⟨Eb.Le.refl _, wY⟩
 have y2 : InE Y.hi Y := ⟨wY, Eb.Le.refl _⟩
 have A : ∀ {a}, a.ok → InE a X → e ∈ rowA Y a → ∃ a b : Eb, a.ok ∧ b.ok ∧ InE a X ∧ InE b Y ∧ e = X00 a b := by
  intro a oa ha he
  rcases (F06 Y a e).1 he with g | g | g
  · exact ⟨a, Y.lo, oa, oY.lo, ha, y1, g⟩
  · exact ⟨a, Y.hi, oa, oY.hi, ha, y2, g⟩
  · unfold rowZ at g
    by_cases c : Y.zero = true ∧ a.sign ≠ 0
    · rw [if_pos c] at g
      exact ⟨a, Eb.fin 0, oa, .inl rfl, ha, G06.1 c.1, by simpa using g⟩
    · rw [if_neg c] at g; simp at g
 have B : ∀ {b}, b.ok → InE b Y → e ∈ rowB X b → ∃ a b : Eb, a.ok ∧ b.ok ∧ InE a X ∧ InE b Y ∧ e = X00 a b := by
  intro b ob hb he
  have col : ∀ {a}, a.ok → e ∈ colB X b a → ∃ a b : Eb, a.ok ∧ b.ok ∧ InE a X ∧ InE b Y ∧ e = X00 a b := by
   intro a oa g
   unfold colB at g
   by_cases c : b.inf = 0 ∧ b.sign ≠ 0 ∧ X.lo.cmp a ≤ 0 ∧ a.cmp X.hi ≤ 0
   · rw [if_pos c] at g
     exact ⟨a, b, oa, ob, ⟨m07.1 c.2.2.1, m07.1 c.2.2.2⟩, hb, by simpa using g⟩
   · rw [if_neg c] at g; simp at g
  rcases (f09 X b e).1 he with g | g
  · exact col ob g
  · exact col (Eb.neg_ok ob) g
 rcases (Z04 X Y e).1 h with (g | g) | (g | g)
 · exact A oX.lo x1 g
 · exact A oX.hi x2 g
 · exact B oY.lo y1 g
 · exact B oY.hi y2 g
theorem Es.sub.share {X Y A B : Es} (oX : X.ok) (oY : Y.ok) (oA : A.ok) (oB : B.ok) (wX : Eb.Le X.lo X.hi) (wY : Eb.Le Y.lo Y.hi) (h : X.sub A) (k : Y.sub B) (hz : ¬ (A.zero = true ∧ B.zero = true)) : (X.share Y).sub (A.share B) := by
 have ne : e03 X Y ≠ [] := fun e => by
  have := J03 (X := X) (Y := Y) (.inl rfl) (.inl rfl); rw [e] at this; simp at this
 have all : ∀ e ∈ e03 X Y, InE e (A.share B) := by
  intro e he
  obtain ⟨a, b, oa, ob, ha, hb, rfl⟩ := G0r oX oY wX wY he
  exact InE.share oA oB oa ob (h.in ha) (k.in hb) hz
 exact ⟨(all _ (Eb.pick_in ne)).1, (all _ (Eb.pick_in ne)).2⟩
-- boxes
theorem o03 {b : Bk} {z : Cq} : b.has z = true ↔ InE ⟨0, z.re⟩ b.re.set ∧ InE ⟨0, z.im⟩ b.im.set := by
 unfold Bk.has; rw [Bool.and_eq_true, E0r, E0r]
theorem p0t {E F : Es} (oE : E.ok) (oF : F.ok) {z : Cq} (h : InE ⟨0, z.re⟩ E) (k : InE ⟨0, z.im⟩ F) : Bk.has ⟨E.span, F.span⟩ z = true := o03.2 ⟨F0m oE h, F0m oF k⟩
theorem Q0b {s : Sk} {q : Rat} (h : InE ⟨0, q⟩ s.set) : InE ⟨0, -q⟩ s.set.neg := by
 have := h.neg; rwa [N04] at this
theorem has_neg {b : Bk} {z : Cq} (h : b.has z = true) : b.neg.has (-z) = true := by
 obtain ⟨h1, h2⟩ := o03.1 h
 refine o03.2 ⟨?_, ?_⟩
 · show InE ⟨0, -z.re⟩ b.re.neg.set; rw [X02]; exact Q0b h1
 · show InE ⟨0, -z.im⟩ b.im.neg.set; rw [X02]; exact Q0b h2
theorem q0t {b : Bk} {z : Cq} (h : b.has z = true) : b.conj.has z.conj = true := by
 obtain ⟨h1, h2⟩ := o03.1 h
 refine o03.2 ⟨h1, ?_⟩
 show InE ⟨0, -z.im⟩ b.im.neg.set; rw [X02]; exact Q0b h2
theorem H0r {b c : Bk} {z w : Cq} (h : b.has z = true) (k : c.has w = true) : (b.add c).has (z + w) = true := by
 obtain ⟨h1, h2⟩ := o03.1 h
 obtain ⟨k1, k2⟩ := o03.1 k
 exact p0t (G07 (m00 _) (m00 _)) (G07 (m00 _) (m00 _)) (InE.add (m00 _) (m00 _) h1 k1) (InE.add (m00 _) (m00 _) h2 k2)
theorem I0r (z w : Cq) : z - w = z + -w := Cq.ext' (by rw [y0e, Q04, t0b]; grind) (by rw [z0e, S04, u0b]; grind)
theorem J0u {b c : Bk} {z w : Cq} (h : b.has z = true) (k : c.has w = true) : (b.sub c).has (z - w) = true := by
 rw [Bk.sub_eq, I0r]; exact H0r h (has_neg k)
theorem l09 {x y : Rat} {s t : Es} (os : s.ok) (ot : t.ok) (h : InE ⟨0, x⟩ s) (k : InE ⟨0, y⟩ t) : InE ⟨0, x * y⟩ (s.mul t) := by
 have := InE.mul (.inl rfl) (.inl rfl) os ot h k; rwa [O0b] at this
theorem J0r {b c : Bk} {z w : Cq} (h : b.has z = true) (k : c.has w = true) : (b.mul c).has (z * w) = true := by
 obtain ⟨h1, h2⟩ := o03.1 h
 obtain ⟨k1, k2⟩ := o03.1 k
 have o := fun (s t : Sk) => C0r s.set t.set
 have r := l09 (m00 _) (m00 _) h2 k2
 have rn := r.neg
 rw [N04] at rn
 refine p0t (G07 (o _ _) (H07 (o _ _))) (G07 (o _ _) (o _ _)) ?_ (InE.add (o _ _) (o _ _) (l09 (m00 _) (m00 _) h1 k2) (l09 (m00 _) (m00 _) h2 k1))
 have := InE.add (o _ _) (H07 (o _ _)) (l09 (m00 _) (m00 _) h1 k1) rn
 have e : (z * w).re = z.re * w.re + -(z.im * w.im) := by rw [g03]; grind
 rw [e]; exact this
theorem S0b {b : Bk} (h : b.clear = true) : ¬ (b.re.set.zero = true ∧ b.im.set.zero = true) := by
 rintro ⟨h1, h2⟩
 have : b.has Cq.zero = true := o03.2 ⟨G06.1 h1, G06.1 h2⟩
 unfold Bk.clear at h; rw [this] at h; exact absurd h (by decide)
def Cq.inv (w : Cq) : Cq := ⟨w.re / w.norm, -w.im / w.norm⟩
theorem G0m {b : Bk} {z : Cq} (h : b.has z = true) (hc : b.clear = true) : b.inv.has z.inv = true := by
 obtain ⟨h1, h2⟩ := o03.1 h
 have nz := S0b hc
 have a := InE.share (m00 _) (m00 _) (.inl rfl) (.inl rfl) h1 h2 nz
 have c := InE.share (m00 _) (m00 _) (.inl rfl) (.inl rfl) h2 h1 (fun g => nz ⟨g.2, g.1⟩)
 rw [e04] at a c
 unfold Bk.inv; rw [if_pos hc]
 refine p0t (T0a _ _) (H07 (T0a _ _)) a ?_
 have := c.neg
 rw [N04] at this
 have e : z.inv.im = -shF z.im z.re := by
  show -z.im / (z.re * z.re + z.im * z.im) = -(z.im / (z.im * z.im + z.re * z.re))
  have : z.im * z.im + z.re * z.re = z.re * z.re + z.im * z.im := by grind
  rw [this, Rat.div_def, Rat.div_def, Rat.neg_mul]
 rw [e]; exact this
theorem K0u (z w : Cq) : z.div w = z * w.inv := by
 refine Cq.ext' ?_ ?_
 · show (z.re * w.re + z.im * w.im) / w.norm = z.re * (w.re / w.norm) - z.im * (-w.im / w.norm)
   rw [Rat.div_def, Rat.div_def, Rat.div_def]; grind
 · show (z.im * w.re - z.re * w.im) / w.norm = z.re * (-w.im / w.norm) + z.im * (w.re / w.norm)
   rw [Rat.div_def, Rat.div_def, Rat.div_def]; grind
theorem L0u {b c : Bk} {z w : Cq} (h : b.has z = true) (k : c.has w = true) (hc : c.clear = true) : (b.mul c.inv).has (z.div w) = true := by
 rw [K0u]; exact J0r h (G0m k hc)
theorem s0t {b : Bk} {z : Cq} (h : b.has z = true) : ((b.re.set.square.add b.im.set.square).span).has z.norm = true := by
 obtain ⟨h1, h2⟩ := o03.1 h
 exact l0t (G07 y04 y04) (InE.add y04 y04 (h1.square (m00 _)) (h2.square (m00 _)))
