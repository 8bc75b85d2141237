/- Part. -/
import Derived.Test.YtkibfmnkkiakoaaGreatGRt1
import Derived.WalkKit
import Derived.ProofKit
import Derived.OpenShut
import Derived.IntWalk
import GoSem.Core.Float
namespace Go.Vc
open Go Go.ChangeShapes Go.RowKit
theorem N0v {P : Program} {f : FuncId} {args : Array Value} {r : Value} (h : a00 P f args (fun _ => none) fun v _ => v = r) (w : World) :
 Calls P f args w fun e w' => e = .returned r ∧ Below w.heap.size w w' :=
 (h w (fun b cs hb => by simp at hb)).mono fun _ _ ⟨_, _, he, _, _, _, hb, hr⟩ => ⟨by rw [he, hr], hb⟩
end Go.Vc
namespace Go.Vc
open Go Go.RowKit
open Go.IntKind (i64 u64 u32 u8)
def wval : List Nat → Nat
 | [] => 0
 | d :: l => d + 4294967296 * wval l
def dig (n : Nat) : List Nat := if h : n = 0 then [] else n % 4294967296 :: dig (n / 4294967296)
termination_by n
decreasing_by omega
def WB (l : List Nat) : Prop := ∀ d ∈ l, d < 4294967296
def wv (l : List Nat) : List Value := l.map fun (d : Nat) => Value.int .u32 (d : Int)
theorem w02 : dig 0 = [] := by rw [dig]; simp
theorem A03 {n : Nat} (h : n ≠ 0) : dig n = n % 4294967296 :: dig (n / 4294967296) := by rw [dig]; simp [h]
theorem o00 (n : Nat) : wval (dig n) = n := by
 induction n using Nat.strongRecOn with
 | _ n ih =>
   by_cases h : n = 0
   · subst h; simp [w02, wval]
   · rw [A03 h, wval, ih _ (by omega)]; omega
theorem i02 (n : Nat) : WB (dig n) := by
 induction n using Nat.strongRecOn with
 | _ n ih =>
   by_cases h : n = 0
   · subst h; simp [w02, WB]
   · rw [A03 h]
     intro d hd
     rcases List.mem_cons.1 hd with rfl | hd
     · omega
     · exact ih _ (by omega) d hd
theorem F0a (a b : List Nat) : wval (a ++ b) = wval a + 4294967296 ^ a.length * wval b := by
 induction a with
 | nil => simp [wval]
 | cons d l ih => simp only [List.cons_append, wval, ih, List.length_cons, Nat.pow_succ]; grind
theorem G0a {l : List Nat} (h : WB l) : wval l < 4294967296 ^ l.length := by
 induction l with
 | nil => simp [wval]
 | cons d l ih =>
   have h1 := ih (fun x hx => h x (by simp [hx]))
   have h2 := h d (by simp)
   simp only [wval, List.length_cons, Nat.pow_succ]
   omega
theorem f00 (l : List Nat) (i : Nat) : wval (l.take (i + 1)) = wval (l.take i) + l.getD i 0 * 4294967296 ^ i := by
 by_cases h : i < l.length
 · rw [List.take_succ_eq_append_getElem h, F0a]
   have : (l.take i).length = i := by simp; omega
   rw [this]
   simp [wval, List.getD, h, Nat.mul_comm]
 · rw [List.take_of_length_le (by omega), List.take_of_length_le (by omega)]
   simp [List.getD, h]
theorem j00 {l : List Nat} {i : Nat} (h : l.length ≤ i) : wval (l.take i) = wval l := by rw [List.take_of_length_le h]
theorem Y03 {l : List Nat} {i d : Nat} (h : i < l.length) : wval ((l.set i d).take (i + 1)) = wval (l.take i) + d * 4294967296 ^ i := by
 rw [f00]
 have h1 : (l.set i d).take i = l.take i := by rw [List.take_set_of_le (Nat.le_refl i)]
 rw [h1]; simp [List.getD, h]
theorem b0q (n : Nat) : wval (List.replicate n 0) = 0 := by
 induction n with
 | zero => rfl
 | succ n ih => simp [List.replicate_succ, wval, ih]
theorem L0c {l : List Nat} (h : ∀ d ∈ l, d = 0) : wval l = 0 := by
 induction l with
 | nil => rfl
 | cons d l ih => simp [wval, h d (by simp), ih (fun x hx => h x (by simp [hx]))]
theorem w0b (l : List Nat) (i : Nat) : wval l = wval (l.take i) + 4294967296 ^ (l.take i).length * wval (l.drop i) := by
 rw [← F0a, List.take_append_drop]
theorem t0t {l : List Nat} (h : WB l) (hl : ∀ d, l.getLast? = some d → d ≠ 0) : dig (wval l) = l := by
 induction l with
 | nil => simp [wval, w02]
 | cons d l ih =>
   have hd := h d (by simp)
   have hb : WB l := fun x hx => h x (by simp [hx])
   have hne : wval (d :: l) ≠ 0 := by
    intro h0
    simp only [wval] at h0
    have hd0 : d = 0 := by omega
    have hw0 : wval l = 0 := by omega
    cases l with
    | nil => exact hl d (by simp) hd0
    | cons e l =>
      have h1 := ih hb (fun x hx => hl x (by simpa [List.getLast?_cons_cons] using hx))
      rw [hw0, w02] at h1; simp at h1
   rw [A03 hne]
   simp only [wval]
   have e1 : (d + 4294967296 * wval l) % 4294967296 = d := by omega
   have e2 : (d + 4294967296 * wval l) / 4294967296 = wval l := by omega
   rw [e1, e2]
   cases l with
   | nil => simp [wval, w02]
   | cons e l => rw [ih hb (fun x hx => hl x (by simpa [List.getLast?_cons_cons] using hx))]
theorem M0n {n d : Nat} (h : (dig n).getLast? = some d) : d ≠ 0 := by
 induction n using Nat.strongRecOn with
 | _ n ih =>
   by_cases h0 : n = 0
   · subst h0; simp [w02] at h
   · rw [A03 h0] at h
     by_cases h1 : n / 4294967296 = 0
     · rw [h1, w02] at h; simp at h; omega
     · rw [A03 h1, List.getLast?_cons_cons, ← A03 h1] at h
       exact ih _ (by omega) h
def wn (n : Nat) : Nat := (dig n).length
theorem P03 : wn 0 = 0 := by simp [wn, w02]
theorem S02 {n : Nat} : wn n = 0 ↔ n = 0 := by
 constructor
 · intro h
   rcases Nat.eq_zero_or_pos n with h0 | h0
   · exact h0
   · simp [wn, A03 (by omega : n ≠ 0)] at h
 · rintro rfl; exact P03
theorem H0a (n : Nat) : n < 4294967296 ^ wn n := by
 have := G0a (i02 n)
 rwa [o00] at this
theorem Q0w {n : Nat} (h : n ≠ 0) : 4294967296 ^ (wn n - 1) ≤ n := by
 induction n using Nat.strongRecOn with
 | _ n ih =>
   simp only [wn, A03 h, List.length_cons, Nat.add_sub_cancel]
   by_cases h1 : n / 4294967296 = 0
   · rw [h1, w02]; simp; omega
   · have h2 := ih _ (by omega) h1
     have h3 : wn (n / 4294967296) ≠ 0 := by rw [Ne, S02]; exact h1
     have e : (dig (n / 4294967296)).length = wn (n / 4294967296) - 1 + 1 := by simp only [wn] at h3 ⊢; omega
     rw [e, Nat.pow_succ]
     have := Nat.mul_le_mul_right 4294967296 h2
     omega
theorem f03 {n k : Nat} (h : n < 4294967296 ^ k) : wn n ≤ k := by
 rcases Nat.eq_zero_or_pos n with h0 | h0
 · subst h0; simp [P03]
 · rcases Nat.lt_or_ge k (wn n) with h1 | h1
   · exfalso
     have h2 := Q0w (by omega : n ≠ 0)
     have h3 : 4294967296 ^ k ≤ 4294967296 ^ (wn n - 1) := Nat.pow_le_pow_right (by omega) (by omega)
     omega
   · exact h1
theorem X04 {a b : Nat} (h : a ≤ b) : wn a ≤ wn b := f03 (Nat.lt_of_le_of_lt h (H0a b))
theorem N0k (a b : Nat) : wn (a + b) ≤ max (wn a) (wn b) + 1 := by
 refine f03 ?_
 have h1 := H0a a
 have h2 := H0a b
 have h3 : 4294967296 ^ wn a ≤ 4294967296 ^ max (wn a) (wn b) := Nat.pow_le_pow_right (by omega) (by omega)
 have h4 : 4294967296 ^ wn b ≤ 4294967296 ^ max (wn a) (wn b) := Nat.pow_le_pow_right (by omega) (by omega)
 rw [Nat.pow_succ]; omega
theorem K05 (a b : Nat) : wn (a * b) ≤ wn a + wn b := by
 refine f03 ?_
 rw [Nat.pow_add]
 exact Nat.mul_lt_mul'' (H0a a) (H0a b)
theorem D0r {n k : Nat} (h : n < 2 ^ (32 * k)) : wn n ≤ k := by
 refine f03 ?_
 have : (4294967296 : Nat) = 2 ^ 32 := rfl
 rw [this, ← Nat.pow_mul]; exact h
structure A00 (V : View) (s : Sl) (l : List Nat) : Prop where
 load : ∀ (i d : Nat), l[i]? = Option.some d → V.load (s.a.map (·.add i)) = some (.int .u32 (d : Int))
 len : s.len = l.length
 cap : s.len ≤ s.cap
 wb : WB l
def e00 (V : View) (s : Sl) (n : Nat) : Prop := A00 V s (dig n)
theorem A00.le {V V' : View} {s : Sl} {l : List Nat} (hle : V.le V') (h : A00 V s l) : A00 V' s l :=
 ⟨fun i d hi => m02 hle (h.load i d hi), h.len, h.cap, h.wb⟩
theorem e00.le {V V' : View} {s : Sl} {n : Nat} (hle : V.le V') (h : e00 V s n) : e00 V' s n := A00.le hle h
theorem A00.isSome {V : View} {s : Sl} {l : List Nat} (h : A00 V s l) (hl : 0 < s.len) : s.a.isSome = true := by
 have hl' : 0 < l.length := by rw [← h.len]; exact hl
 have := h.load 0 _ (List.getElem?_eq_getElem hl')
 cases ha : s.a with
 | none => rw [ha] at this; simp [View.load] at this
 | some a => rfl
theorem A00.get {V : View} {s : Sl} {l : List Nat} (h : A00 V s l) {i : Int} (h0 : 0 ≤ i) (h1 : i < s.len) :
 V.load (Option.map (fun q => Addr.add q (Int.toNat i * 1)) s.a) = some (.int .u32 (l.getD i.toNat 0 : Nat)) := by
 have hi : i.toNat < l.length := by have := h.len; omega
 have := h.load i.toNat _ (List.getElem?_eq_getElem hi)
 simpa [List.getD, hi] using this
theorem A00.getD_lt {V : View} {s : Sl} {l : List Nat} (h : A00 V s l) (i : Nat) : l.getD i 0 < 4294967296 := by
 by_cases hi : i < l.length
 · have := h.wb (l[i]) (List.getElem_mem _)
   simpa [List.getD, hi] using this
 · simp [List.getD, hi]
theorem WB.getD {l : List Nat} (h : WB l) (i : Nat) : l.getD i 0 < 4294967296 := by
 by_cases hi : i < l.length
 · have := h (l[i]) (List.getElem_mem _)
   simpa [List.getD, hi] using this
 · simp [List.getD, hi]
theorem WB.set {l : List Nat} (h : WB l) {i d : Nat} (hd : d < 4294967296) : WB (l.set i d) := by
 intro x hx
 rcases List.mem_or_eq_of_mem_set hx with h1 | h1
 · exact h x h1
 · omega
theorem WB.zeros (n : Nat) : WB (List.replicate n 0) := fun d hd => by rw [(List.mem_replicate.1 hd).2]; omega
theorem WB.take {l : List Nat} (h : WB l) (n : Nat) : WB (l.take n) := fun d hd => h d (List.mem_of_mem_take hd)
theorem WB.drop {l : List Nat} (h : WB l) (n : Nat) : WB (l.drop n) := fun d hd => h d (List.mem_of_mem_drop hd)
theorem A00.nil (V : View) : A00 V (Sl.mk none 0 0) [] := ⟨fun i d h => by simp at h, rfl, by simp, fun d h => by simp at h⟩
theorem e00.zero (V : View) : e00 V (Sl.mk none 0 0) 0 := by unfold e00; rw [w02]; exact A00.nil V
theorem A00.nat {V : View} {s : Sl} {l : List Nat} (h : A00 V s l) (hl : ∀ d, l.getLast? = some d → d ≠ 0) : e00 V s (wval l) := by
 unfold e00; rw [t0t h.wb hl]; exact h
theorem A00.inj {V : View} {s : Sl} {a b : List Nat} (h1 : A00 V s a) (h2 : A00 V s b) : a = b := by
 have l1 := h1.len
 have l2 := h2.len
 apply List.ext_getElem?
 intro j
 by_cases hj : j < a.length
 · have g1 := h1.load j _ (List.getElem?_eq_getElem hj)
   have g2 := h2.load j _ (List.getElem?_eq_getElem (by omega))
   rw [g1] at g2
   simp only [Option.some.injEq, Value.int.injEq, true_and] at g2
   rw [List.getElem?_eq_getElem hj, List.getElem?_eq_getElem (by omega)]
   congr 1
   omega
 · rw [List.getElem?_eq_none (by omega), List.getElem?_eq_none (by omega)]
theorem e00.inj {V : View} {s : Sl} {a b : Nat} (h1 : e00 V s a) (h2 : e00 V s b) : a = b := by
 rw [← o00 a, ← o00 b, A00.inj h1 h2]
theorem e00.isSome {V : View} {s : Sl} {n : Nat} (h : e00 V s n) (hl : 0 < s.len) : s.a.isSome = true := A00.isSome h hl
theorem e00.get {V : View} {s : Sl} {n : Nat} (h : e00 V s n) {i : Int} (h0 : 0 ≤ i) (h1 : i < s.len) :
 V.load (Option.map (fun q => Addr.add q (Int.toNat i * 1)) s.a) = some (.int .u32 ((dig n).getD i.toNat 0 : Nat)) := A00.get h h0 h1
theorem e00.getD_lt {V : View} {s : Sl} {n : Nat} (h : e00 V s n) (i : Nat) : (dig n).getD i 0 < 4294967296 := A00.getD_lt h i
theorem e00.len {V : View} {s : Sl} {n : Nat} (h : e00 V s n) : s.len = (dig n).length := A00.len h
theorem A00.of_block {V : View} {b : Nat} {l : List Nat} {n c : Nat} (hb : V b = .some (wv l).toArray) (hn : n = l.length) (hc : n ≤ c) (hw : WB l) : A00 V (Sl.mk (.some (Addr.mk b 0 none)) n c) l := by
 refine ⟨fun i d hi => ?_, hn, hc, hw⟩
 by_cases e : i = 0
 · subst e; simp [View.load, Addr.add, hb, wv, hi]
 · simp [View.load, Addr.add, hb, wv, hi, e]
theorem g00 (l : List Nat) : (wv l).length = l.length := by simp [wv]
theorem c05 {l : List Nat} {i : Nat} (h : i < l.length) : (wv l)[i]? = .some (.int .u32 (l.getD i 0 : Nat)) := by simp [wv, List.getD, h]
theorem O02 (l : List Nat) (i d : Nat) : (wv l).set i (.int .u32 (d : Nat)) = wv (l.set i d) := by simp [wv, List.map_set]
theorem N02 (n : Nat) : (List.replicate n [Value.int .u32 0]).flatten = wv (List.replicate n 0) := by
 induction n with
 | zero => rfl
 | succ n ih => simp [List.replicate_succ, ih, wv]
def M0c (V : View) (s : Sl) : Nat := wval ((List.range s.len).map fun i => match V.load (s.a.map (·.add i)) with | .some (.int _ n) => n.toNat | _ => 0)
theorem L05 {V : View} {s : Sl} {n : Nat} (h : e00 V s n) : M0c V s = n := by
 unfold M0c
 have e : ((List.range s.len).map fun i => match V.load (s.a.map (·.add i)) with | .some (.int _ n) => n.toNat | _ => 0) = dig n := by
  apply List.ext_getElem?
  intro i
  have hl := h.len
  by_cases hi : i < s.len
  · have := A00.load h i _ (List.getElem?_eq_getElem (by omega))
    simp [hi, this, List.getElem?_eq_getElem (by omega : i < (dig n).length)]
  · rw [List.getElem?_eq_none (by simp; omega), List.getElem?_eq_none (by omega)]
 rw [e, o00]
theorem i64w {n : Int} (h0 : -9223372036854775808 ≤ n) (h1 : n ≤ 9223372036854775807) : i64.wrap n = n := IntWalk.i64_in n ⟨h0, h1⟩
theorem u64w {n : Int} (h0 : 0 ≤ n) (h1 : n ≤ 18446744073709551615) : u64.wrap n = n := IntWalk.u64_in n ⟨h0, h1⟩
theorem u32w {n : Int} (h0 : 0 ≤ n) (h1 : n ≤ 4294967295) : u32.wrap n = n := IntWalk.u32_in n ⟨h0, h1⟩
theorem u32m (n : Int) : u32.wrap n = n % 4294967296 := by rw [IntKind.wrap_u32]
theorem u64m (n : Int) : u64.wrap n = n % 18446744073709551616 := by simp [IntKind.wrap, IntKind.signed, IntKind.bits]

def ws (f : Nat → Nat) : Nat → Nat
 | 0 => 0
 | n + 1 => ws f n + f n * 4294967296 ^ n
theorem x0i {f g : Nat → Nat} {n : Nat} (h : ∀ i, i < n → f i = g i) : ws f n = ws g n := by
 induction n with
 | zero => rfl
 | succ n ih => simp only [ws]; rw [ih (fun i hi => h i (by omega)), h n (by omega)]
theorem e0v (l : List Nat) (n : Nat) : ws (fun i => l.getD i 0) n = wval (l.take n) := by
 induction n with
 | zero => simp [ws, wval]
 | succ n ih => rw [f00, ← ih]; rfl
theorem S0w {f : Nat → Nat} {n : Nat} (h : ∀ i, i < n → f i < 4294967296) : ws f n < 4294967296 ^ n := by
 induction n with
 | zero => simp [ws]
 | succ n ih =>
   have h1 := ih (fun i hi => h i (by omega))
   have h2 := Nat.mul_le_mul_right (4294967296 ^ n) (Nat.succ_le_of_lt (h n (by omega)))
   simp only [ws, Nat.pow_succ]
   rw [Nat.succ_mul] at h2
   omega
theorem e0w (f : Nat → Nat) (m n : Nat) : ws f (m + n) = ws f m + 4294967296 ^ m * ws (fun i => f (m + i)) n := by
 induction n with
 | zero => simp [ws]
 | succ n ih =>
   show ws f (m + n) + f (m + n) * 4294967296 ^ (m + n) = _
   rw [ih]; simp only [ws, Nat.pow_add, Nat.mul_add]; grind
def seg (l : List Nat) (j k : Nat) : Nat := ws (fun i => l.getD (j + i) 0) k
theorem i03 (l : List Nat) (j : Nat) : seg l j 0 = 0 := rfl
theorem b01 (l : List Nat) (j k : Nat) : seg l j (k + 1) = seg l j k + l.getD (j + k) 0 * 4294967296 ^ k := rfl
theorem y0i (l : List Nat) (k : Nat) : seg l 0 k = wval (l.take k) := by
 unfold seg; simp only [Nat.zero_add]; exact e0v l k
theorem A04 {l : List Nat} {k : Nat} (h : l.length ≤ k) : seg l 0 k = wval l := by rw [y0i, j00 h]
theorem Y04 (l : List Nat) (j m n : Nat) : seg l j (m + n) = seg l j m + 4294967296 ^ m * seg l (j + m) n := by
 unfold seg; rw [e0w]
 congr 2
 exact x0i fun i _ => by rw [Nat.add_assoc]
theorem k08 {l : List Nat} (h : WB l) (j k : Nat) : seg l j k < 4294967296 ^ k := S0w fun _ _ => h.getD _
theorem D03 (l : List Nat) (p d i : Nat) : (l.set p d).getD i 0 = if i = p ∧ p < l.length then d else l.getD i 0 := by
 simp only [List.getD, List.getElem?_set]
 by_cases e : p = i
 · subst e
   by_cases h : p < l.length
   · simp [h]
   · simp [h]
 · have e' : ¬ i = p := fun x => e x.symm
   simp [e, e']
theorem f05 {l : List Nat} {p d j k : Nat} (h : p < j ∨ j + k ≤ p) : seg (l.set p d) j k = seg l j k := by
 refine x0i fun i hi => ?_
 rw [D03, if_neg (by omega)]
theorem e01 {l : List Nat} {p d j k : Nat} (hp : p = j + k) (hl : p < l.length) : seg (l.set p d) j (k + 1) = seg l j k + d * 4294967296 ^ k := by
 rw [b01, f05 (by omega), D03, if_pos (by omega)]
theorem z0i {l : List Nat} {p d j k : Nat} (h1 : j ≤ p) (h2 : p < j + k) (hl : p < l.length) : seg (l.set p d) j k + l.getD p 0 * 4294967296 ^ (p - j) = seg l j k + d * 4294967296 ^ (p - j) := by
 induction k with
 | zero => omega
 | succ k ih =>
   rcases Nat.lt_or_ge p (j + k) with h | h
   · have := ih h
     rw [b01, b01, D03, if_neg (by omega)]; omega
   · have e : p = j + k := by omega
     rw [e01 e hl, b01, show p - j = k by omega, ← e]; omega
theorem A0i (n j k : Nat) : seg (List.replicate n 0) j k = 0 := by
 induction k with
 | zero => rfl
 | succ k ih =>
   rw [b01, ih]
   have : (List.replicate n 0).getD (j + k) 0 = 0 := by
    simp only [List.getD, List.getElem?_replicate]; split <;> rfl
   rw [this]; simp
theorem u0t {B v1 v2 P V W guess rest top u0 : Nat} (hV : V ≤ (v1 * B + v2 + 1) * P) (hW : (top * B + u0) * P ≤ W)
 (hg : guess * v1 + rest = top) (hc : guess * v2 ≤ rest * B + u0) (hB : guess ≤ v1 * B + v2 + 1) : (guess - 1) * V ≤ W := by
 rcases Nat.eq_zero_or_pos guess with h0 | h0
 · subst h0; simp
 obtain ⟨g, rfl⟩ : ∃ g, guess = g + 1 := ⟨guess - 1, by omega⟩
 simp only [Nat.add_sub_cancel]
 have h1 : (g + 1) * (v1 * B + v2) ≤ top * B + u0 := by
  subst hg
  have : (g + 1) * (v1 * B + v2) = (g + 1) * v1 * B + (g + 1) * v2 := by grind
  have h2 : ((g + 1) * v1 + rest) * B = (g + 1) * v1 * B + rest * B := by grind
  omega
 have h2 : g * (v1 * B + v2 + 1) ≤ (g + 1) * (v1 * B + v2) := by
  have : g * (v1 * B + v2 + 1) = g * (v1 * B + v2) + g := by grind
  have h3 : (g + 1) * (v1 * B + v2) = g * (v1 * B + v2) + (v1 * B + v2) := by grind
  omega
 have h3 := Nat.mul_le_mul_left g hV
 have h4 := Nat.mul_le_mul_right P (Nat.le_trans h2 h1)
 have e : g * ((v1 * B + v2 + 1) * P) = g * (v1 * B + v2 + 1) * P := by grind
 omega
end Go.Vc
namespace Go.Vc
open Go
theorem O0k (X : BitVec IntKind.u32.bits) : IntKind.u32.wrap (X.toNat : Int) = X.toNat := by
 have h : X.toNat < 4294967296 := X.isLt
 exact u32w (by omega) (by omega)
theorem P0k {w : Nat} (X : BitVec w) : BitVec.ofInt w (X.toNat : Int) = X := by
 rw [BitVec.ofInt_natCast, BitVec.ofNat_toNat, BitVec.setWidth_eq]
theorem of32 {n : Nat} (h : n < 4294967296) : (BitVec.ofInt 32 (n : Int)).toNat = n := by
 rw [BitVec.ofInt_natCast, BitVec.toNat_ofNat]; exact Nat.mod_eq_of_lt h
theorem of64 {n : Nat} (h : n < 18446744073709551616) : (BitVec.ofInt 64 (n : Int)).toNat = n := by
 rw [BitVec.ofInt_natCast, BitVec.toNat_ofNat]; exact Nat.mod_eq_of_lt h
theorem or64 {a b : Nat} (ha : a < 4294967296) (hb : b < 4294967296) :
 BitVec.toNat ((BitVec.ofInt IntKind.u64.bits (((b * 4294967296 : Nat)) : Int)) ||| (BitVec.ofInt IntKind.u64.bits ((a : Nat) : Int))) = b * 4294967296 + a := by
 have e : IntKind.u64.bits = 64 := rfl
 rw [e, BitVec.ofInt_natCast, BitVec.ofInt_natCast, BitVec.toNat_or, BitVec.toNat_ofNat, BitVec.toNat_ofNat, Nat.mod_eq_of_lt (by omega), Nat.mod_eq_of_lt (by omega)]
 have := Nat.two_pow_add_eq_or_of_lt (i := 32) (b := a) (by omega) b
 rw [show b * 4294967296 = 2 ^ 32 * b by omega, ← this]
theorem f0w {a b : Nat} (ha : a < 4294967296) (hb : b < 4294967296) :
 BitVec.toNat ((BitVec.ofInt IntKind.u64.bits ((a : Nat) : Int)) ||| (BitVec.ofInt IntKind.u64.bits (((b * 4294967296 : Nat)) : Int))) = b * 4294967296 + a := by
 rw [BitVec.or_comm]; exact or64 ha hb
theorem T0w (X : BitVec IntKind.u32.bits) : Int.fdiv (X.toNat : Int) (2 ^ (min (Int.toNat 31) (IntKind.u32.bits))) = X.msb.toNat := by
 have e : (2 : Int) ^ (min (Int.toNat 31) (IntKind.u32.bits)) = 2147483648 := by decide
 have h : X.toNat < 4294967296 := X.isLt
 rw [e, Int.fdiv_eq_ediv_of_nonneg _ (by omega), BitVec.msb_eq_decide]
 have e2 : 2 ^ (IntKind.u32.bits - 1) = 2147483648 := by decide
 rw [e2]
 by_cases hx : 2147483648 ≤ X.toNat
 · simp [hx]; omega
 · simp [hx]; omega
theorem E0r {x y b : Nat} (hx : x < 4294967296) (hy : y < 4294967296) (hb : b ≤ 1) (X Y D : BitVec 32) (hX : X.toNat = x) (hY : Y.toNat = y) (hD : D.toNat = (x + 8589934592 - y - b) % 4294967296) (M : BitVec 32) (hM : M = BitVec.allOnes 32) :
 (((M ^^^ X) &&& Y) ||| ((M ^^^ (X ^^^ Y)) &&& D)).msb.toNat = if x < y + b then 1 else 0 := by
 subst hM
 simp only [BitVec.msb_or, BitVec.msb_and, BitVec.msb_xor, BitVec.msb_allOnes (w := 32) (by omega)]
 simp only [BitVec.msb_eq_decide, hX, hY, hD]
 have e2 : 2 ^ (32 - 1) = 2147483648 := by decide
 rw [e2]
 by_cases h1 : 2147483648 ≤ x <;> by_cases h2 : 2147483648 ≤ y <;> by_cases h3 : 2147483648 ≤ (x + 8589934592 - y - b) % 4294967296 <;> simp [h1, h2, h3] <;> omega
theorem x0b (a i : Nat) : (dig a).getD i 0 = a / 4294967296 ^ i % 4294967296 := by
 induction i generalizing a with
 | zero =>
   by_cases h : a = 0
   · subst h; simp [w02]
   · rw [A03 h]; simp
 | succ i ih =>
   by_cases h : a = 0
   · subst h; simp [w02]
   · rw [A03 h, List.getD_cons_succ, ih, Nat.pow_succ, Nat.mul_comm, Nat.div_div_eq_div_mul]
def bl (n : Nat) : Nat := if n = 0 then 0 else Nat.log2 n + 1
theorem Y05 : bl 0 = 0 := by simp [bl]
theorem I0a (n : Nat) : n < 2 ^ bl n := by
 unfold bl; split
 · omega
 · exact Nat.lt_log2_self
theorem W09 {n : Nat} (h : n ≠ 0) : 2 ^ (bl n - 1) ≤ n := by
 simp only [bl, h, if_false, Nat.add_sub_cancel]; exact Nat.log2_self_le h
theorem N0c {n : Nat} (h : n ≠ 0) : 0 < bl n := by simp [bl, h]
theorem g0w {n k : Nat} (h1 : 2 ^ k ≤ n) (h2 : n < 2 ^ (k + 1)) : bl n = k + 1 := by
 have h0 : n ≠ 0 := by have := Nat.two_pow_pos k; omega
 have a1 := I0a n
 have a2 := W09 h0
 have a3 := N0c h0
 have b1 : k < bl n := (Nat.pow_lt_pow_iff_right (a := 2) (by omega)).1 (Nat.lt_of_le_of_lt h1 a1)
 have b2 : bl n - 1 < k + 1 := (Nat.pow_lt_pow_iff_right (a := 2) (by omega)).1 (Nat.lt_of_le_of_lt a2 h2)
 omega
theorem N0n {n m : Nat} (k : Nat) (h0 : n ≠ 0) (h1 : n * 2 ^ k ≤ m) (h2 : m < (n + 1) * 2 ^ k) : bl m = bl n + k := by
 have a1 := I0a n
 have a2 := W09 h0
 have a3 := N0c h0
 have e : bl n + k = (bl n - 1 + k) + 1 := by omega
 rw [e]
 refine g0w ?_ ?_
 · rw [Nat.pow_add]; exact Nat.le_trans (Nat.mul_le_mul_right _ a2) h1
 · rw [show bl n - 1 + k + 1 = bl n + k by omega, Nat.pow_add]; exact Nat.lt_of_lt_of_le h2 (Nat.mul_le_mul_right _ a1)
theorem O0n {m : Nat} (k : Nat) (h : 2 ^ k ≤ m) : bl m = bl (m / 2 ^ k) + k := by
 have hp := Nat.two_pow_pos k
 have hd : 0 < m / 2 ^ k := Nat.div_pos h hp
 refine N0n k (by omega) (Nat.div_mul_le_self _ _) ?_
 have := Nat.lt_succ_iff.2 (Nat.le_refl (m / 2 ^ k))
 exact (Nat.div_lt_iff_lt_mul hp).1 this
theorem td32 (n : Nat) : Int.tdiv (n : Int) 32 = ((n / 32 : Nat) : Int) := (Int.ofNat_tdiv n 32).symm
theorem tm32 (n : Nat) : Int.tmod (n : Int) 32 = ((n % 32 : Nat) : Int) := (Int.ofNat_tmod n 32).symm
theorem u0u {r h lo : Nat} (hh : h < 2 ^ r) : (h ||| lo * 2 ^ r) = h + lo * 2 ^ r := by
 have := Nat.two_pow_add_eq_or_of_lt hh lo
 rw [Nat.or_comm, show lo * 2 ^ r = 2 ^ r * lo by rw [Nat.mul_comm], ← this]; omega
theorem i0w {a b : Nat} (ha : a < 4294967296) (hb : b < 4294967296) :
 BitVec.toNat ((BitVec.ofInt IntKind.u32.bits ((a : Nat) : Int)) ||| (BitVec.ofInt IntKind.u32.bits ((b : Nat) : Int))) = a ||| b := by
 have e : IntKind.u32.bits = 32 := rfl
 rw [e, BitVec.ofInt_natCast, BitVec.ofInt_natCast, BitVec.toNat_or, BitVec.toNat_ofNat, BitVec.toNat_ofNat, Nat.mod_eq_of_lt (by omega), Nat.mod_eq_of_lt (by omega)]

structure K08 (P vN v1 v2 u2 u1 u0 W : Nat) : Prop where
 h1 : v1 < 4294967296
 h2 : v2 < 4294967296
 pos : 0 < v1
 k2 : u2 ≤ v1
 k1 : u1 < 4294967296
 k0 : u0 < 4294967296
 vlo : (v1 * 4294967296 + v2) * P ≤ vN
 vhi : vN ≤ (v1 * 4294967296 + v2 + 1) * P
 wlo : ((u2 * 4294967296 + u1) * 4294967296 + u0) * P ≤ W
 whi : W < ((u2 * 4294967296 + u1) * 4294967296 + u0 + 1) * P
 lt : W < 4294967296 * vN
theorem K08.big {P vN v1 v2 u2 u1 u0 W : Nat} (h : K08 P vN v1 v2 u2 u1 u0 W) {q : Nat} (hq : q * vN ≤ W) : q * (v1 * 4294967296 + v2) < (u2 * 4294967296 + u1) * 4294967296 + u0 + 1 := by
 rcases Nat.lt_or_ge (q * (v1 * 4294967296 + v2)) ((u2 * 4294967296 + u1) * 4294967296 + u0 + 1) with h1 | h1
 · exact h1
 · exfalso
   have h2 := Nat.mul_le_mul_right P h1
   have h3 := Nat.mul_le_mul_left q h.vlo
   rw [← Nat.mul_assoc] at h3
   have := h.whi
   omega
theorem K08.init {P vN v1 v2 u2 u1 u0 W : Nat} (h : K08 P vN v1 v2 u2 u1 u0 W) : W / vN ≤ (u2 * 4294967296 + u1) / v1 := by
 rw [Nat.le_div_iff_mul_le h.pos]
 have h1 := h.big (Nat.div_mul_le_self W vN)
 generalize W / vN = q at *
 have hu0 := h.k0
 have e : q * (v1 * 4294967296 + v2) = q * v1 * 4294967296 + q * v2 := by rw [Nat.mul_add, Nat.mul_assoc]
 rw [e] at h1
 omega
theorem K08.quo {P vN v1 v2 u2 u1 u0 W : Nat} (h : K08 P vN v1 v2 u2 u1 u0 W) : W / vN < 4294967296 := by
 have := h.lt
 rw [Nat.div_lt_iff_lt_mul]
 · exact this
 · rcases Nat.eq_zero_or_pos vN with h0 | h0
   · subst h0; omega
   · exact h0
theorem K08.dec {P vN v1 v2 u2 u1 u0 W g r : Nat} (h : K08 P vN v1 v2 u2 u1 u0 W) (hg : g * v1 + r = u2 * 4294967296 + u1) (hc : r * 4294967296 + u0 < g * v2) : W / vN < g := by
 have h1 := h.big (Nat.div_mul_le_self W vN)
 generalize W / vN = q at *
 rcases Nat.lt_or_ge q g with h2 | h2
 · exact h2
 · exfalso
   have h3 := Nat.mul_le_mul_right (v1 * 4294967296 + v2) h2
   have e : g * (v1 * 4294967296 + v2) = g * v1 * 4294967296 + g * v2 := by rw [Nat.mul_add, Nat.mul_assoc]
   omega
theorem K08.exit {P vN v1 v2 u2 u1 u0 W g r : Nat} (h : K08 P vN v1 v2 u2 u1 u0 W) (hg : g * v1 + r = u2 * 4294967296 + u1) (hB : g < 4294967296) (hc : g * v2 ≤ r * 4294967296 + u0) : (g - 1) * vN ≤ W := by
 have := h.pos
 exact u0t h.vhi h.wlo hg hc (by omega)
theorem K08.brk {P vN v1 v2 u2 u1 u0 W g r : Nat} (h : K08 P vN v1 v2 u2 u1 u0 W) (hg : g * v1 + r = u2 * 4294967296 + u1) (h0 : 0 < g) (hr : 4294967296 ≤ r + v1) : g - 1 < 4294967296 ∧ (g - 1 - 1) * vN ≤ W := by
 obtain ⟨g, rfl⟩ : ∃ k, g = k + 1 := ⟨g - 1, by omega⟩
 simp only [Nat.add_sub_cancel]
 have hg' : g * v1 + (r + v1) = u2 * 4294967296 + u1 := by rw [Nat.succ_mul] at hg; omega
 have hB : g < 4294967296 := by
  rcases Nat.lt_or_ge g 4294967296 with h1 | h1
  · exact h1
  · exfalso
    have h2 := Nat.mul_le_mul_right v1 h1
    have := h.k2
    have := h.k1
    omega
 refine ⟨hB, h.exit hg' hB ?_⟩
 have := Nat.mul_le_mul (Nat.le_of_lt hB) (Nat.le_of_lt h.h2)
 have h3 := Nat.mul_le_mul_right 4294967296 hr
 omega
theorem Q0k (l : List Nat) (j k : Nat) : seg l j (k + 1 + 1 + 1) = seg l j k + ((l.getD (j + k + 2) 0 * 4294967296 + l.getD (j + k + 1) 0) * 4294967296 + l.getD (j + k) 0) * 4294967296 ^ k := by
 rw [b01, b01, b01, Nat.pow_succ, Nat.pow_succ, Nat.pow_succ, show j + (k + 1 + 1) = j + k + 2 by omega, show j + (k + 1) = j + k + 1 by omega]
 grind
theorem f0v (l : List Nat) (j k : Nat) : seg l j (k + 1 + 1) = seg l j k + (l.getD (j + k + 1) 0 * 4294967296 + l.getD (j + k) 0) * 4294967296 ^ k := by
 rw [b01, b01, Nat.pow_succ, show j + (k + 1) = j + k + 1 by omega]
 grind
theorem Y0m (n : Nat) {k : Nat} (h : wn n ≤ k) : seg (dig n) 0 k = n := by rw [A04 h, o00]
theorem B0i {n vN j : Nat} {u : List Nat} (hu : WB u) (hn : 2 ≤ n) (hv : wn vN = n) (hc : seg u (j + 1) n < vN) :
 K08 (4294967296 ^ (n - 2)) vN ((dig vN).getD (n - 1) 0) ((dig vN).getD (n - 2) 0) (u.getD (j + n) 0) (u.getD (j + n - 1) 0) (u.getD (j + n - 2) 0) (seg u j (n + 1)) := by
 obtain ⟨k, rfl⟩ : ∃ k, n = k + 2 := ⟨n - 2, by omega⟩
 have e1 : k + 2 - 1 = k + 1 := rfl
 have e2 : k + 2 - 2 = k := rfl
 have e3 : j + (k + 2) = j + k + 2 := rfl
 have e4 : j + k + 2 - 1 = j + k + 1 := rfl
 have e5 : j + k + 2 - 2 = j + k := rfl
 rw [e1, e2, e3, e4, e5]
 have hw := i02 vN
 have hvs := Y0m vN (Nat.le_of_eq hv)
 rw [f0v, Nat.zero_add] at hvs
 have b1 := k08 hw 0 k
 have b2 := k08 hu j k
 have hP : 0 < 4294967296 ^ k := Nat.pow_pos (by omega)
 have top := b01 u (j + 1) (k + 1)
 rw [show j + 1 + (k + 1) = j + k + 2 by omega] at top
 have hw1 : seg u j (k + 2 + 1) = u.getD j 0 + 4294967296 * seg u (j + 1) (k + 2) := by
  rw [show k + 2 + 1 = 1 + (k + 2) by omega, Y04, b01, i03]; simp
 have b3 := hu.getD j
 refine ⟨hw.getD _, hw.getD _, ?_, ?_, hu.getD _, hu.getD _, by omega, by rw [Nat.succ_mul]; omega, ?_, ?_, by rw [hw1]; omega⟩
 · rcases Nat.eq_zero_or_pos ((dig vN).getD (k + 1) 0) with h0 | h0
   · exfalso
     have hl : wn vN = k + 2 := hv
     have h1 : vN ≠ 0 := by rintro rfl; rw [P03] at hl; omega
     have h2 : (dig vN).getLast? = some ((dig vN).getD (k + 1) 0) := by
      rw [List.getLast?_eq_getElem?]
      simp only [wn] at hl
      simp only [List.getD]
      rw [hl, show k + 2 - 1 = k + 1 by omega, List.getElem?_eq_getElem (by omega)]; rfl
     exact M0n h2 h0
   · exact h0
 · -- the top word
   rcases Nat.lt_or_ge ((dig vN).getD (k + 1) 0) (u.getD (j + k + 2) 0) with h0 | h0
   · exfalso
     have h1 := Nat.mul_le_mul_right (4294967296 ^ (k + 1)) (Nat.succ_le_of_lt h0)
     rw [Nat.succ_mul, Nat.pow_succ] at h1
     rw [show k + 1 + 1 = k + 2 by omega, Nat.pow_succ] at top
     have h2 := hw.getD k
     have h3 := Nat.mul_le_mul_right (4294967296 ^ k) (Nat.succ_le_of_lt h2)
     rw [Nat.succ_mul] at h3
     have e6 : ∀ z, z * (4294967296 ^ k * 4294967296) = z * 4294967296 * 4294967296 ^ k := by intro z; grind
     simp only [e6] at h1 top
     rw [Nat.add_mul] at hvs
     omega
   · exact h0
 · rw [show k + 2 + 1 = k + 1 + 1 + 1 by omega, Q0k]; omega
 · rw [show k + 2 + 1 = k + 1 + 1 + 1 by omega, Q0k, Nat.succ_mul]; omega
theorem w0t {α : Type} (l : List α) (off : Nat) (vs : List α) (h : off + vs.length ≤ l.length) : setL l off vs = l.take off ++ vs ++ l.drop (off + vs.length) := by
 induction vs generalizing l off with
 | nil => simp [setL]
 | cons v vs ih =>
   simp only [List.length_cons] at h
   rw [setL, ih _ _ (by simp; omega)]
   apply List.ext_getElem?
   intro i
   simp only [List.getElem?_append, List.getElem?_take, List.getElem?_drop, List.getElem?_set, List.length_append, List.length_take, List.length_set, List.length_cons, List.getElem?_cons]
   have e1 : min (off + 1) l.length = off + 1 := by omega
   have e2 : min off l.length = off := by omega
   rw [e1, e2]
   by_cases c1 : i < off
   · have c2 : ¬ off = i := by omega
     simp [c1, c2, show i < off + 1 + vs.length by omega, show i < off + 1 by omega, show i < off + (vs.length + 1) by omega]
   · by_cases c2 : i = off
     · subst c2
       simp [show i < i + 1 + vs.length by omega, show i < l.length by omega]
     · have c3 : ¬ off = i := fun x => c2 x.symm
       have c4 : ¬ i < off + 1 := by omega
       have c5 : i - off ≠ 0 := by omega
       simp only [c1, c4, if_false, c3]
       by_cases c6 : i < off + 1 + vs.length
       · simp [c6, show i < off + (vs.length + 1) by omega, c5, show i - off - 1 = i - (off + 1) by omega]
       · simp only [c6, show ¬ i < off + (vs.length + 1) by omega, if_false]
         rw [if_neg (by omega)]
         congr 1; omega
theorem F0r (n : Nat) (d : List Nat) (h : d.length ≤ n) : setL (wv (List.replicate n 0)) 0 (wv d) = wv (d ++ List.replicate (n - d.length) 0) := by
 rw [w0t _ _ _ (by simp [wv]; omega)]
 simp [wv]
theorem P0n (d : List Nat) (n : Nat) : wval (d ++ List.replicate n 0) = wval d := by rw [F0a, b0q]; simp

structure Cq where
 re : Rat
 im : Rat
theorem Cq.ext' {x y : Cq} (h1 : x.re = y.re) (h2 : x.im = y.im) : x = y := by cases x; cases y; cases h1; cases h2; rfl
instance : DecidableEq Cq := fun x y => if h1 : x.re = y.re then if h2 : x.im = y.im then .isTrue (Cq.ext' h1 h2) else .isFalse (fun e => h2 (by rw [e])) else .isFalse (fun e => h1 (by rw [e]))
instance : Add Cq := ⟨fun x y => ⟨x.re + y.re, x.im + y.im⟩⟩
instance : Neg Cq := ⟨fun x => ⟨-x.re, -x.im⟩⟩
instance : Sub Cq := ⟨fun x y => ⟨x.re - y.re, x.im - y.im⟩⟩
instance : Mul Cq := ⟨fun x y => ⟨x.re * y.re - x.im * y.im, x.re * y.im + x.im * y.re⟩⟩
def Cq.conj (x : Cq) : Cq := ⟨x.re, -x.im⟩
def Cq.norm (x : Cq) : Rat := x.re * x.re + x.im * x.im
def Cq.zero : Cq := ⟨0, 0⟩
def Cq.one : Cq := ⟨1, 0⟩
def Cq.I : Cq := ⟨0, 1⟩
def Cq.div (x y : Cq) : Cq := ⟨(x.re * y.re + x.im * y.im) / y.norm, (x.im * y.re - x.re * y.im) / y.norm⟩
theorem g09 (x y : Cq) : (x + y).re = x.re + y.re := rfl
theorem i09 (x y : Cq) : (x + y).im = x.im + y.im := rfl
theorem j0f (x y : Cq) : (x - y).re = x.re - y.re := rfl
theorem k0f (x y : Cq) : (x - y).im = x.im - y.im := rfl
theorem U0b (x : Cq) : (-x).re = -x.re := rfl
theorem W0b (x : Cq) : (-x).im = -x.im := rfl
theorem J06 (x y : Cq) : (x * y).re = x.re * y.re - x.im * y.im := rfl
theorem K06 (x y : Cq) : (x * y).im = x.re * y.im + x.im * y.re := rfl
theorem x0q (x : Cq) : x.conj.im = -x.im := rfl
structure Rep (z : Cq) (A B : Int) (D : Nat) : Prop where
 pos : D ≠ 0
 re : z.re = (A : Rat) / (D : Rat)
 im : z.im = (B : Rat) / (D : Rat)
structure y0b (z : Cq) (A B : Int) (D : Nat) : Prop where
 rep : Rep z A B D
 cop : Nat.gcd (Nat.gcd A.natAbs B.natAbs) D = 1
theorem W00 {D : Nat} (h : D ≠ 0) : (D : Rat) ≠ 0 := by simpa using h
theorem u01 {A A' : Int} {D D' : Nat} (h : D ≠ 0) (h' : D' ≠ 0) : (A : Rat) / (D : Rat) = (A' : Rat) / (D' : Rat) ↔ A * D' = A' * D := by
 rw [← Rat.mkRat_eq_div, ← Rat.mkRat_eq_div, Rat.mkRat_eq_iff h h']
theorem y0b.dvd {z : Cq} {A B A' B' : Int} {D D' : Nat} (h : y0b z A B D) (h' : Rep z A' B' D') : D ∣ D' := by
 have e1 := (u01 h.rep.pos h'.pos).1 (h.rep.re.symm.trans h'.re)
 have e2 := (u01 h.rep.pos h'.pos).1 (h.rep.im.symm.trans h'.im)
 have f1 : D ∣ A.natAbs * D' := by
  have := congrArg Int.natAbs e1
  rw [Int.natAbs_mul, Int.natAbs_mul, Int.natAbs_natCast, Int.natAbs_natCast] at this
  exact ⟨A'.natAbs, by rw [this, Nat.mul_comm]⟩
 have f2 : D ∣ B.natAbs * D' := by
  have := congrArg Int.natAbs e2
  rw [Int.natAbs_mul, Int.natAbs_mul, Int.natAbs_natCast, Int.natAbs_natCast] at this
  exact ⟨B'.natAbs, by rw [this, Nat.mul_comm]⟩
 have f3 := Nat.dvd_gcd f1 f2
 rw [Nat.gcd_mul_right] at f3
 have hc : Nat.Coprime D (Nat.gcd A.natAbs B.natAbs) := by rw [Nat.Coprime, Nat.gcd_comm]; exact h.cop
 exact hc.dvd_of_dvd_mul_left f3
theorem y0b.inj {z : Cq} {A B A' B' : Int} {D D' : Nat} (h : y0b z A B D) (h' : y0b z A' B' D') : A = A' ∧ B = B' ∧ D = D' := by
 have hD : D = D' := Nat.dvd_antisymm (h.dvd h'.rep) (h'.dvd h.rep)
 subst hD
 have e1 := (u01 h.rep.pos h'.rep.pos).1 (h.rep.re.symm.trans h'.rep.re)
 have e2 := (u01 h.rep.pos h'.rep.pos).1 (h.rep.im.symm.trans h'.rep.im)
 have hD : (D : Int) ≠ 0 := by have := h.rep.pos; omega
 exact ⟨Int.eq_of_mul_eq_mul_right hD e1, Int.eq_of_mul_eq_mul_right hD e2, rfl⟩
def gcd3 (A B : Int) (D : Nat) : Nat := Nat.gcd (Nat.gcd A.natAbs B.natAbs) D
theorem C0i (A B : Int) {D : Nat} (h : D ≠ 0) : 0 < gcd3 A B D := Nat.gcd_pos_of_pos_right _ (by omega)
theorem z0b (A B : Int) (D : Nat) : gcd3 A B D ∣ A.natAbs := Nat.dvd_trans (Nat.gcd_dvd_left _ _) (Nat.gcd_dvd_left _ _)
theorem A0b (A B : Int) (D : Nat) : gcd3 A B D ∣ B.natAbs := Nat.dvd_trans (Nat.gcd_dvd_left _ _) (Nat.gcd_dvd_right _ _)
theorem A0e (A B : Int) (D : Nat) : gcd3 A B D ∣ D := Nat.gcd_dvd_right _ _
theorem G04 {A : Int} {g : Nat} (h : g ∣ A.natAbs) : (A / (g : Int)).natAbs = A.natAbs / g := by
 obtain ⟨k, hk⟩ := h
 rcases Nat.eq_zero_or_pos g with h0 | h0
 · subst h0; simp
 · have hg : (g : Int) ≠ 0 := by omega
   rcases Int.natAbs_eq A with e | e
   · rw [hk] at e; rw [e, Int.natCast_mul, Int.mul_ediv_cancel_left _ hg, Int.natAbs_natCast, Int.natAbs_mul, Int.natAbs_natCast, Int.natAbs_natCast, Nat.mul_div_cancel_left _ h0]
   · rw [hk] at e; rw [e, Int.natCast_mul, ← Int.mul_neg, Int.mul_ediv_cancel_left _ hg, Int.natAbs_neg, Int.natAbs_natCast, Int.natAbs_mul, Int.natAbs_natCast, Int.natAbs_neg, Int.natAbs_natCast, Nat.mul_div_cancel_left _ h0]
theorem S0g {A : Int} {g : Nat} (h : g ∣ A.natAbs) : A / (g : Int) * g = A := Int.ediv_mul_cancel (Int.ofNat_dvd_left.2 h)
theorem Y07 {A : Int} {g : Nat} (h : g ∣ A.natAbs) (hg : 0 < g) : decide (A / (g : Int) < 0) = decide (A < 0) := by
 have e := S0g h
 have hg' : (0 : Int) < g := by omega
 have : A / (g : Int) < 0 ↔ A < 0 := by
  constructor
  · intro h1
    have := Int.mul_neg_of_neg_of_pos h1 hg'
    omega
  · intro h1
    rcases Int.lt_or_le (A / (g : Int)) 0 with h2 | h2
    · exact h2
    · have := Int.mul_nonneg h2 (Int.le_of_lt hg'); omega
 simp [this]
theorem Rep.canon {z : Cq} {A B : Int} {D : Nat} (h : Rep z A B D) : y0b z (A / (gcd3 A B D : Nat)) (B / (gcd3 A B D : Nat)) (D / gcd3 A B D) := by
 have hg := C0i A B h.pos
 have d1 := z0b A B D
 have d2 := A0b A B D
 have d3 := A0e A B D
 have hne : D / gcd3 A B D ≠ 0 := by
  have := Nat.div_pos (Nat.le_of_dvd (by have := h.pos; omega) d3) hg
  omega
 have key : ∀ {C : Int}, gcd3 A B D ∣ C.natAbs → (C : Rat) / (D : Rat) = ((C / (gcd3 A B D : Nat) : Int) : Rat) / ((D / gcd3 A B D : Nat) : Rat) := by
  intro C hC
  rw [u01 h.pos hne]
  have e1 := S0g hC
  have e2 := Nat.div_mul_cancel d3
  have e3 : (D : Int) = ((D / gcd3 A B D : Nat) : Int) * (gcd3 A B D : Nat) := by rw [← Int.natCast_mul, e2]
  generalize (C / (gcd3 A B D : Nat) : Int) = q at *
  generalize D / gcd3 A B D = m at *
  generalize gcd3 A B D = g at *
  rw [← e1, e3]
  grind
 refine ⟨⟨hne, h.re.trans (key d1), h.im.trans (key d2)⟩, ?_⟩
 rw [G04 d1, G04 d2, Nat.gcd_div d1 d2, Nat.gcd_div (Nat.dvd_gcd d1 d2) d3]
 exact Nat.div_self hg
theorem Cq.rep (z : Cq) : Rep z (z.re.num * z.im.den) (z.im.num * z.re.den) (z.re.den * z.im.den) := by
 have h1 := z.re.den_nz
 have h2 := z.im.den_nz
 have h3 := Nat.mul_ne_zero h1 h2
 refine ⟨h3, ?_, ?_⟩
 · conv => lhs; rw [← Rat.mkRat_self z.re, Rat.mkRat_eq_div]
   rw [u01 h1 h3]
   rw [Int.natCast_mul]; grind
 · conv => lhs; rw [← Rat.mkRat_self z.im, Rat.mkRat_eq_div]
   rw [u01 h2 h3]
   rw [Int.natCast_mul]; grind
def Cq.g (z : Cq) : Nat := gcd3 (z.re.num * z.im.den) (z.im.num * z.re.den) (z.re.den * z.im.den)
def Cq.A (z : Cq) : Int := z.re.num * z.im.den / (z.g : Int)
def Cq.B (z : Cq) : Int := z.im.num * z.re.den / (z.g : Int)
def Cq.D (z : Cq) : Nat := z.re.den * z.im.den / z.g
theorem Cq.canon (z : Cq) : y0b z z.A z.B z.D := z.rep.canon
theorem Cq.D_pos (z : Cq) : z.D ≠ 0 := z.canon.rep.pos
theorem y0b.eqs {z : Cq} {A B : Int} {D : Nat} (h : y0b z A B D) : z.A = A ∧ z.B = B ∧ z.D = D := z.canon.inj h
theorem Rep.eqs {z : Cq} {A B : Int} {D : Nat} (h : Rep z A B D) : z.A = A / (gcd3 A B D : Nat) ∧ z.B = B / (gcd3 A B D : Nat) ∧ z.D = D / gcd3 A B D := h.canon.eqs
theorem F0o {z w : Cq} (h1 : z.A = w.A) (h2 : z.B = w.B) (h3 : z.D = w.D) : z = w := by
 have a := z.canon.rep
 have b := w.canon.rep
 exact Cq.ext' (by rw [a.re, b.re, h1, h3]) (by rw [a.im, b.im, h2, h3])
def Cq.sz (z : Cq) : Nat := max (bl z.A.natAbs) (max (bl z.B.natAbs) (bl z.D))
theorem C06 {a b : Nat} (h : a ≤ b) : bl a ≤ bl b := by
 rcases Nat.eq_zero_or_pos a with h0 | h0
 · subst h0; simp [Y05]
 · have h1 := W09 (by omega : a ≠ 0)
   have h2 := I0a b
   have := (Nat.pow_lt_pow_iff_right (a := 2) (n := bl a - 1) (m := bl b) (by omega)).1 (by omega)
   omega
theorem I02 {a k : Nat} (h : a < 2 ^ k) : bl a ≤ k := by
 rcases Nat.eq_zero_or_pos a with h0 | h0
 · subst h0; simp [Y05]
 · have h1 := W09 (by omega : a ≠ 0)
   have := (Nat.pow_lt_pow_iff_right (a := 2) (n := bl a - 1) (m := k) (by omega)).1 (by omega)
   omega
theorem Z07 {a k : Nat} (h : bl a ≤ k) : a < 2 ^ k := Nat.lt_of_lt_of_le (I0a a) (Nat.pow_le_pow_right (by omega) h)
theorem L08 (a b : Nat) : bl (a * b) ≤ bl a + bl b := by
 refine I02 ?_
 rw [Nat.pow_add]
 exact Nat.mul_lt_mul'' (I0a a) (I0a b)
theorem j0w {a b k : Nat} (h1 : bl a ≤ k) (h2 : bl b ≤ k) : bl (a + b) ≤ k + 1 := by
 refine I02 ?_
 have := Z07 h1
 have := Z07 h2
 rw [Nat.pow_succ]; omega
theorem B0e {a b : Int} {k : Nat} (h1 : bl a.natAbs ≤ k) (h2 : bl b.natAbs ≤ k) : bl (a + b).natAbs ≤ k + 1 :=
 Nat.le_trans (C06 (Int.natAbs_add_le a b)) (j0w h1 h2)
theorem g0v {a b : Int} {k : Nat} (h1 : bl a.natAbs ≤ k) (h2 : bl b.natAbs ≤ k) : bl (a - b).natAbs ≤ k + 1 := by
 rw [Int.sub_eq_add_neg]
 exact B0e h1 (by rw [Int.natAbs_neg]; exact h2)
theorem Z05 (a b : Int) : bl (a * b).natAbs ≤ bl a.natAbs + bl b.natAbs := by rw [Int.natAbs_mul]; exact L08 _ _
theorem J04 {a k : Nat} (h : bl a ≤ 32 * k) : wn a ≤ k := D0r (Z07 h)
theorem Rep.sz {z : Cq} {A B : Int} {D k : Nat} (h : Rep z A B D) (hA : bl A.natAbs ≤ k) (hB : bl B.natAbs ≤ k) (hD : bl D ≤ k) : z.sz ≤ k := by
 obtain ⟨e1, e2, e3⟩ := h.eqs
 unfold Cq.sz
 rw [e1, e2, e3, G04 (z0b A B D), G04 (A0b A B D)]
 have a := C06 (Nat.div_le_self A.natAbs (gcd3 A B D))
 have b := C06 (Nat.div_le_self B.natAbs (gcd3 A B D))
 have c := C06 (Nat.div_le_self D (gcd3 A B D))
 omega
theorem Cq.szA (z : Cq) : bl z.A.natAbs ≤ z.sz := Nat.le_max_left _ _
theorem Cq.szB (z : Cq) : bl z.B.natAbs ≤ z.sz := by unfold Cq.sz; omega
theorem Cq.szD (z : Cq) : bl z.D ≤ z.sz := by unfold Cq.sz; omega
theorem Rep.add {z w : Cq} {A B A' B' : Int} {D D' : Nat} (h : Rep z A B D) (h' : Rep w A' B' D') : Rep (z + w) (A * D' + A' * D) (B * D' + B' * D) (D * D') := by
 have n1 := W00 h.pos
 have n2 := W00 h'.pos
 refine ⟨Nat.mul_ne_zero h.pos h'.pos, ?_, ?_⟩
 · rw [g09, h.re, h'.re]; push_cast; grind
 · rw [i09, h.im, h'.im]; push_cast; grind
theorem Rep.neg {z : Cq} {A B : Int} {D : Nat} (h : Rep z A B D) : Rep (-z) (-A) (-B) D := by
 refine ⟨h.pos, ?_, ?_⟩
 · rw [U0b, h.re]; push_cast; grind
 · rw [W0b, h.im]; push_cast; grind
theorem Rep.conj {z : Cq} {A B : Int} {D : Nat} (h : Rep z A B D) : Rep z.conj A (-B) D := by
 refine ⟨h.pos, h.re, ?_⟩
 rw [x0q, h.im]; push_cast; grind
theorem Rep.mul {z w : Cq} {A B A' B' : Int} {D D' : Nat} (h : Rep z A B D) (h' : Rep w A' B' D') : Rep (z * w) (A * A' - B * B') (A * B' + B * A') (D * D') := by
 have n1 := W00 h.pos
 have n2 := W00 h'.pos
 refine ⟨Nat.mul_ne_zero h.pos h'.pos, ?_, ?_⟩
 · rw [J06, h.re, h'.re, h.im, h'.im]; push_cast; grind
 · rw [K06, h.re, h'.re, h.im, h'.im]; push_cast; grind

def I00 (V : View) (x : WhV) (n : Int) : Prop := x.neg = decide (n < 0) ∧ e00 V x.mag n.natAbs
theorem I00.le {V V' : View} {x : WhV} {n : Int} (hle : V.le V') (h : I00 V x n) : I00 V' x n := ⟨h.1, h.2.le hle⟩
theorem I00.zero (V : View) : I00 V (WhV.mk false (Sl.mk none 0 0)) 0 := ⟨by simp, e00.zero V⟩
theorem I00.val {V : View} {x : WhV} {n : Int} (h : I00 V x n) : n = if x.neg = true then -(n.natAbs : Int) else (n.natAbs : Int) := by
 rw [h.1]; simp only [decide_eq_true_eq]; split <;> omega
theorem I00.inj {V : View} {x : WhV} {n m : Int} (h : I00 V x n) (h' : I00 V x m) : n = m := by
 rw [h.val, h'.val, e00.inj h.2 h'.2]
structure S01 (V : View) (x : NumV) (z : Cq) : Prop where
 re : I00 V x.re z.A
 im : I00 V x.im z.B
 under : e00 V x.under (if z.D = 1 then 0 else z.D)
structure QAt (V : View) (x : NumV) (z : Cq) : Prop where
 re : I00 V x.re z.A
 im : I00 V x.im z.B
 under : e00 V x.under z.D
theorem S01.le {V V' : View} {x : NumV} {z : Cq} (hle : V.le V') (h : S01 V x z) : S01 V' x z := ⟨h.re.le hle, h.im.le hle, h.under.le hle⟩
theorem QAt.le {V V' : View} {x : NumV} {z : Cq} (hle : V.le V') (h : QAt V x z) : QAt V' x z := ⟨h.re.le hle, h.im.le hle, h.under.le hle⟩
theorem S01.inj {V : View} {x : NumV} {z w : Cq} (h : S01 V x z) (h' : S01 V x w) : z = w := by
 refine F0o (h.re.inj h'.re) (h.im.inj h'.im) ?_
 have := e00.inj h.under h'.under
 have := z.D_pos
 have := w.D_pos
 split at * <;> split at * <;> omega
theorem e00.len_zero {V : View} {s : Sl} {n : Nat} (h : e00 V s n) : s.len = 0 ↔ n = 0 := by
 rw [← S02 (n := n), wn, ← h.len]
theorem Rep.ofInt (n : Int) : Rep ⟨(n : Rat), 0⟩ n 0 1 := by
 refine ⟨by omega, ?_, ?_⟩
 · rw [Rat.div_def]; simp; grind
 · rw [Rat.div_def]; simp
theorem b07 (n : Int) : (Cq.mk (n : Rat) 0).A = n ∧ (Cq.mk (n : Rat) 0).B = 0 ∧ (Cq.mk (n : Rat) 0).D = 1 :=
 y0b.eqs ⟨Rep.ofInt n, by simp⟩
theorem l0f : Cq.zero.A = 0 ∧ Cq.zero.B = 0 ∧ Cq.zero.D = 1 := by
 have := b07 0
 simp only [Rat.intCast_zero] at this
 exact this
theorem S01.zero (V : View) : S01 V (NumV.mk (WhV.mk false (Sl.mk none 0 0)) (WhV.mk false (Sl.mk none 0 0)) (Sl.mk none 0 0)) Cq.zero := by
 obtain ⟨h1, h2, h3⟩ := l0f
 refine ⟨by rw [h1]; exact I00.zero V, by rw [h2]; exact I00.zero V, by rw [h3]; exact e00.zero V⟩
theorem Q0n : bl 1 = 1 := by decide
theorem b04 : Cq.zero.sz ≤ 1 := by
 obtain ⟨h1, h2, h3⟩ := l0f
 unfold Cq.sz; rw [h1, h2, h3]; simp [Y05, Q0n]
theorem S05 (z w : Cq) : (z + w).sz ≤ z.sz + w.sz + 1 := by
 have a1 := z.szA; have a2 := z.szB; have a3 := z.szD
 have b1 := w.szA; have b2 := w.szB; have b3 := w.szD
 refine (z.canon.rep.add w.canon.rep).sz ?_ ?_ ?_
 · refine B0e (Nat.le_trans (Z05 _ _) ?_) (Nat.le_trans (Z05 _ _) ?_) <;> simp only [Int.natAbs_natCast] <;> omega
 · refine B0e (Nat.le_trans (Z05 _ _) ?_) (Nat.le_trans (Z05 _ _) ?_) <;> simp only [Int.natAbs_natCast] <;> omega
 · exact Nat.le_trans (L08 _ _) (by omega)
theorem T01 (z w : Cq) : (z * w).sz ≤ z.sz + w.sz + 1 := by
 have a1 := z.szA; have a2 := z.szB; have a3 := z.szD
 have b1 := w.szA; have b2 := w.szB; have b3 := w.szD
 refine (z.canon.rep.mul w.canon.rep).sz ?_ ?_ ?_
 · exact g0v (Nat.le_trans (Z05 _ _) (by omega)) (Nat.le_trans (Z05 _ _) (by omega))
 · exact B0e (Nat.le_trans (Z05 _ _) (by omega)) (Nat.le_trans (Z05 _ _) (by omega))
 · exact Nat.le_trans (L08 _ _) (by omega)
theorem Cq.neg_eqs (z : Cq) : (-z).A = -z.A ∧ (-z).B = -z.B ∧ (-z).D = z.D :=
 y0b.eqs ⟨z.canon.rep.neg, by rw [Int.natAbs_neg, Int.natAbs_neg]; exact z.canon.cop⟩
theorem Cq.conj_eqs (z : Cq) : z.conj.A = z.A ∧ z.conj.B = -z.B ∧ z.conj.D = z.D :=
 y0b.eqs ⟨z.canon.rep.conj, by rw [Int.natAbs_neg]; exact z.canon.cop⟩
theorem j09 (z : Cq) : (-z).sz = z.sz := by
 obtain ⟨h1, h2, h3⟩ := z.neg_eqs
 unfold Cq.sz; rw [h1, h2, h3, Int.natAbs_neg, Int.natAbs_neg]
theorem k0h (z : Cq) : z.conj.sz = z.sz := by
 obtain ⟨h1, h2, h3⟩ := z.conj_eqs
 unfold Cq.sz; rw [h1, h2, h3, Int.natAbs_neg]
theorem Cq.sub_eq (z w : Cq) : z - w = z + -w := Cq.ext' (by rw [j0f, g09, U0b]; grind) (by rw [k0f, i09, W0b]; grind)
theorem z0l (z w : Cq) : (z - w).sz ≤ z.sz + w.sz + 1 := by
 rw [Cq.sub_eq, ← j09 w]; exact S05 z (-w)
theorem Cq.B_zero {z : Cq} : z.B = 0 ↔ z.im = 0 := by
 have h := z.canon.rep
 rw [h.im]
 constructor
 · intro e; rw [e]; simp [Rat.div_def]
 · intro e
   have hD := W00 h.pos
   have : ((z.B : Int) : Rat) = 0 := by
    have h2 := congrArg (· * (z.D : Rat)) e
    simp only [Rat.div_mul_cancel hD, Rat.zero_mul] at h2
    exact h2
   simpa using this
theorem Cq.A_zero {z : Cq} : z.A = 0 ↔ z.re = 0 := by
 have h := z.canon.rep
 rw [h.re]
 constructor
 · intro e; rw [e]; simp [Rat.div_def]
 · intro e
   have hD := W00 h.pos
   have : ((z.A : Int) : Rat) = 0 := by
    have h2 := congrArg (· * (z.D : Rat)) e
    simp only [Rat.div_mul_cancel hD, Rat.zero_mul] at h2
    exact h2
   simpa using this
theorem Y0f {A A' : Int} {D D' : Nat} (h : D ≠ 0) (h' : D' ≠ 0) : (A : Rat) / (D : Rat) < (A' : Rat) / (D' : Rat) ↔ A * D' < A' * D := by
 have p : (0 : Rat) < (D : Rat) := Rat.natCast_pos.2 (by omega)
 have p' : (0 : Rat) < (D' : Rat) := Rat.natCast_pos.2 (by omega)
 rw [Rat.div_lt_iff p]
 have e : (A' : Rat) / (D' : Rat) * (D : Rat) = ((A' * D : Int) : Rat) / (D' : Rat) := by push_cast; rw [Rat.div_def, Rat.div_def]; grind
 rw [e, Rat.lt_div_iff p']
 have e2 : (A : Rat) * (D' : Rat) = ((A * D' : Int) : Rat) := by push_cast; rfl
 rw [e2]; exact Rat.intCast_lt_intCast
def cmpR (x y : Rat) : Int := if x < y then -1 else if x = y then 0 else 1
def cmpZ (x y : Int) : Int := if x < y then -1 else if x = y then 0 else 1
theorem J0a {x y : Int} (h : x < y) : cmpZ x y = -1 := by unfold cmpZ; rw [if_pos h]
theorem D0i {x y : Int} (h : x = y) : cmpZ x y = 0 := by unfold cmpZ; rw [if_neg (by omega), if_pos h]
theorem C0e {x y : Int} (h : y < x) : cmpZ x y = 1 := by unfold cmpZ; rw [if_neg (by omega), if_neg (by omega)]
theorem B0b {x y : Int} : cmpZ x y = 0 ↔ x = y := by
 unfold cmpZ; split
 · omega
 · split <;> omega
theorem G0r {A A' : Int} {D D' : Nat} (h : D ≠ 0) (h' : D' ≠ 0) : cmpZ (A * D') (A' * D) = cmpR ((A : Rat) / (D : Rat)) ((A' : Rat) / (D' : Rat)) := by
 unfold cmpZ cmpR
 simp only [Y0f h h', u01 h h']
def Cq.cmp (z w : Cq) : Int := if cmpR z.re w.re ≠ 0 then cmpR z.re w.re else cmpR z.im w.im

theorem S0k (a : Addr) (m n : Nat) : (a.add m).add n = a.add (m + n) := by
 by_cases h1 : m = 0 <;> by_cases h2 : n = 0 <;> simp [Addr.add, h1, h2, Nat.add_assoc]
theorem m0c {V : View} {b j : Nat} {cs : Array Value} (h : V b = some cs) : V.load ((some (Addr.mk b 0 none)).map (·.add j)) = cs[j]? := by
 by_cases h1 : j = 0 <;> simp [View.load, Addr.add, h1, h]
def Y02 {α : Type} (sz : Nat) (P : View → List Value → α → Prop) (V : View) : List Value → List α → Prop
 | o, [] => o = []
 | o, z :: zs => ∃ x o', o = x ++ o' ∧ x.length = sz ∧ P V x z ∧ Y02 sz P V o' zs
section
variable {α : Type} {sz : Nat} {P : View → List Value → α → Prop} {V V' : View}
theorem Y02.length : ∀ {zs : List α} {o : List Value}, Y02 sz P V o zs → o.length = zs.length * sz
 | [], _, h => by rw [show _ = [] from h]; simp
 | z :: zs, _, ⟨x, o', e, hx, _, h⟩ => by rw [e, List.length_append, hx, h.length, List.length_cons, Nat.add_mul]; omega
theorem Y02.imp {P' : View → List Value → α → Prop} (hP : ∀ x z, P V x z → P' V' x z) : ∀ {zs : List α} {o : List Value}, Y02 sz P V o zs → Y02 sz P' V' o zs
 | [], _, h => h
 | _ :: _, _, ⟨x, o', e, hx, p, h⟩ => ⟨x, o', e, hx, hP _ _ p, h.imp hP⟩
theorem Y02.append : ∀ {zs zs' : List α} {o o' : List Value}, Y02 sz P V o zs → Y02 sz P V o' zs' → Y02 sz P V (o ++ o') (zs ++ zs')
 | [], _, _, _, h, h' => by rw [show _ = [] from h]; exact h'
 | _ :: _, _, _, _, ⟨x, o1, e, hx, p, h⟩, h' => ⟨x, o1 ++ _, by rw [e, List.append_assoc], hx, p, h.append h'⟩
theorem Y02.one {x : List Value} {z : α} (hx : x.length = sz) (p : P V x z) : Y02 sz P V x [z] := ⟨x, [], by simp, hx, p, rfl⟩
theorem Y02.nil : Y02 sz P V [] ([] : List α) := rfl
theorem Y02.replicate {x : List Value} {z : α} (hx : x.length = sz) (p : P V x z) : ∀ n, Y02 sz P V (List.replicate n x).flatten (List.replicate n z)
 | 0 => rfl
 | n + 1 => ⟨x, (List.replicate n x).flatten, by simp [List.replicate_succ], hx, p, Y02.replicate hx p n⟩
theorem Y02.get : ∀ {zs : List α} {o : List Value}, Y02 sz P V o zs → ∀ {i : Nat} {z : α}, zs[i]? = some z →
 ∃ x, P V x z ∧ x.length = sz ∧ ∀ j v, x[j]? = some v → o[i * sz + j]? = some v
 | [], _, _, i, z, hi => by simp at hi
 | z0 :: zs, _, ⟨x, o', e, hx, p, h⟩, 0, z, hi => by
   simp at hi; subst hi
   refine ⟨x, p, hx, fun j v hj => ?_⟩
   have : j < x.length := by
    rcases Nat.lt_or_ge j x.length with h | h
    · exact h
    · rw [List.getElem?_eq_none h] at hj; simp at hj
   rw [e, Nat.zero_mul, Nat.zero_add, List.getElem?_append_left this]; exact hj
 | z0 :: zs, _, ⟨x, o', e, hx, p, h⟩, i + 1, z, hi => by
   simp at hi
   obtain ⟨y, q, hy, hg⟩ := h.get hi
   refine ⟨y, q, hy, fun j v hj => ?_⟩
   rw [e, List.getElem?_append_right (by rw [hx, Nat.add_mul]; omega)]
   have : (i + 1) * sz + j - x.length = i * sz + j := by rw [hx, Nat.add_mul]; omega
   rw [this]; exact hg j v hj
theorem S0n {β : Type} : ∀ (vs a : List β) (b c : List β), b.length = vs.length → setL (a ++ b ++ c) a.length vs = a ++ vs ++ c
 | [], a, b, c, h => by have : b = [] := by simpa using h
                        subst this; simp [setL]
 | v :: vs, a, [], c, h => by simp at h
 | v :: vs, a, b0 :: b, c, h => by
   have h' : b.length = vs.length := by simpa using h
   unfold setL
   have e : (a ++ b0 :: b ++ c).set a.length v = (a ++ [v]) ++ b ++ c := by
    rw [List.append_assoc, List.set_append_right _ _ (Nat.le_refl _)]; simp
   rw [e]
   have e2 : a.length + 1 = (a ++ [v]).length := by simp
   rw [e2, S0n vs (a ++ [v]) b c h']; simp
theorem Y02.set : ∀ {zs : List α} {o : List Value}, Y02 sz P V o zs → ∀ {i : Nat} {y : List Value} {z : α}, i < zs.length → y.length = sz → P V y z →
 ∀ pre : List Value, ∃ o', setL (pre ++ o) (pre.length + i * sz) y = pre ++ o' ∧ Y02 sz P V o' (zs.set i z)
 | [], _, _, i, _, _, hi, _, _, _ => by simp at hi
 | z0 :: zs, _, ⟨x, o', e, hx, p, h⟩, 0, y, z, hi, hy, q, pre => by
   refine ⟨y ++ o', ?_, y, o', rfl, hy, q, h⟩
   rw [e, Nat.zero_mul, Nat.add_zero, ← List.append_assoc, S0n y pre x o' (by rw [hx, hy])]; simp
 | z0 :: zs, _, ⟨x, o', e, hx, p, h⟩, i + 1, y, z, hi, hy, q, pre => by
   obtain ⟨o2, e2, h2⟩ := h.set (i := i) (by simpa using hi) hy q (pre ++ x)
   refine ⟨x ++ o2, ?_, x, o2, rfl, hx, p, h2⟩
   have e3 : (pre ++ x).length + i * sz = pre.length + (i + 1) * sz := by rw [List.length_append, hx, Nat.add_mul]; omega
   rw [e, ← e3, ← List.append_assoc, e2, List.append_assoc]
theorem y0q {zs : List α} {o : List Value} (h : Y02 sz P V o zs) {i : Nat} {y : List Value} {z : α} (hi : i < zs.length) (hy : y.length = sz) (q : P V y z) :
 Y02 sz P V (setL o (0 + i * sz) y) (zs.set i z) := by
 obtain ⟨o', e, h'⟩ := h.set hi hy q []
 simp only [List.nil_append, List.length_nil] at e
 rw [e]; exact h'
structure P02 (sz : Nat) (P : View → List Value → α → Prop) (V : View) (s : Sl) (zs : List α) : Prop where
 len : s.len = zs.length
 cap : s.len ≤ s.cap
 some : zs ≠ [] → s.a.isSome = true
 cells : ∃ o, V.has s.a o ∧ Y02 sz P V o zs
theorem P02.le (hP : ∀ x z, P V x z → P V' x z) (hle : V.le V') {s : Sl} {zs : List α} (h : P02 sz P V s zs) : P02 sz P V' s zs := by
 obtain ⟨o, h1, h2⟩ := h.cells
 exact ⟨h.len, h.cap, h.some, o, C04 hle h1, h2.imp hP⟩
theorem P02.nil : P02 sz P V (Sl.mk none 0 0) ([] : List α) := ⟨rfl, Nat.le_refl _, by simp, [], by intro j v h; simp at h, rfl⟩
theorem P02.get {s : Sl} {zs : List α} (h : P02 sz P V s zs) {t : Int} (h0 : 0 ≤ t) {z : α} (hz : zs[t.toNat]? = .some z) :
 ((0 : Int) ≤ t ∧ t < (s.len : Nat) ∧ Option.isSome s.a = true) ∧
 ∃ x, P V x z ∧ x.length = sz ∧ V.has (Option.map (fun q => Addr.add q (Int.toNat t * sz)) s.a) x ∧ Option.isSome (Option.map (fun q => Addr.add q (Int.toNat t * sz)) s.a) = true := by
 obtain ⟨o, h1, h2⟩ := h.cells
 obtain ⟨x, p, hx, hg⟩ := h2.get hz
 have hlt : t.toNat < zs.length := by
  rcases Nat.lt_or_ge t.toNat zs.length with h | h
  · exact h
  · rw [List.getElem?_eq_none h] at hz; simp at hz
 have hne : zs ≠ [] := by intro e; rw [e] at hlt; simp at hlt
 have hs := h.some hne
 have hl := h.len
 refine ⟨⟨h0, by omega, hs⟩, x, p, hx, fun j v hj => ?_, by simpa using hs⟩
 have := h1 _ v (hg j v hj)
 rw [Option.map_map]
 have e : ((fun x : Addr => x.add j) ∘ fun q : Addr => q.add (t.toNat * sz)) = fun q : Addr => q.add (t.toNat * sz + j) := by
  funext a; exact S0k a _ _
 rw [e]; exact this
theorem P02.of_block {b c : Nat} {o o' : List Value} {zs : List α} (hb : o ++ o' ≠ [] → V b = .some (o ++ o').toArray) (h : Y02 sz P V o zs) {n : Nat} (hn : n = zs.length) (hc : n ≤ c) {a : Option Addr}
 (ha : c ≠ 0 → a = .some ⟨b, 0, none⟩) : P02 sz P V ⟨a, n, c⟩ zs := by
 refine ⟨hn, hc, fun hne => ?_, o, fun j v hj => ?_, h⟩
 · have : zs.length ≠ 0 := by simpa using hne
   rw [ha (by omega)]; rfl
 · have hj' : j < o.length := by
     rcases Nat.lt_or_ge j o.length with h | h
     · exact h
     · rw [List.getElem?_eq_none h] at hj; simp at hj
   have hl := h.length
   have hz : zs.length ≠ 0 := by intro e; rw [e] at hl; omega
   have hne : o ++ o' ≠ [] := by intro e; have := congrArg List.length e; simp at this; simp [this] at hj'
   show V.load (a.map (·.add j)) = .some v
   rw [ha (by omega)]
   rw [m0c (hb hne), List.getElem?_toArray, List.getElem?_append_left hj']; exact hj
theorem X05.split {n cap : Nat} {o l : List Value} (h : X05 sz n cap o l) : ∃ o', o = l ++ o' := ⟨o.drop (n * sz), by rw [← h.take, List.take_append_drop]⟩
theorem X05.nil : X05 sz 0 0 [] [] := ⟨Nat.le_refl _, by simp, by simp⟩
theorem p0j {b n cap : Nat} {o l : List Value} {zs : List α} (hl : X05 sz n cap o l) (hb : o ≠ [] → V b = .some o.toArray) (h : Y02 sz P V l zs) (hn : n = zs.length) :
 P02 sz P V ⟨lstA b cap, n, cap⟩ zs := by
 obtain ⟨o', e⟩ := hl.split
 refine P02.of_block (o := l) (o' := o') (b := b) (fun hne => ?_) h hn hl.le (fun hc => by simp [lstA, hc])
 rw [← e]; exact hb (by rw [e]; exact hne)
theorem x0a {b n : Nat} {o : List Value} {zs : List α} (hb : V b = .some o.toArray) (h : Y02 sz P V o zs) (hn : n = zs.length) : P02 sz P V ⟨.some ⟨b, 0, none⟩, n, n⟩ zs :=
 P02.of_block (o := o) (o' := []) (b := b) (fun _ => by simpa using hb) h hn (Nat.le_refl _) (fun _ => rfl)
end
def numC (V : View) (x : List Value) (z : Cq) : Prop := ∃ n : NumV, x = n.val.cells.toList ∧ S01 V n z
theorem numC.le {V V' : View} (hle : V.le V') (x : List Value) (z : Cq) (h : numC V x z) : numC V' x z := by
 obtain ⟨n, e, hn⟩ := h; exact ⟨n, e, hn.le hle⟩
def T0k (V : View) (s : Sl) (zs : List Cq) : Prop := P02 5 numC V s zs
def E07 (V : View) (o : List Value) (zs : List Cq) : Prop := Y02 5 numC V o zs
theorem T0k.le {V V' : View} (hle : V.le V') {s : Sl} {zs : List Cq} (h : T0k V s zs) : T0k V' s zs := P02.le (numC.le hle) hle h
theorem E07.le {V V' : View} (hle : V.le V') {o : List Value} {zs : List Cq} (h : E07 V o zs) : E07 V' o zs := Y02.imp (numC.le hle) h
def nth (zs : List Cq) (i : Nat) : Cq := zs.getD i Cq.zero
theorem H0r {zs : List Cq} {i : Nat} (h : i < zs.length) : zs[i]? = some (nth zs i) := by simp [nth, List.getD, h]
theorem T0k.get {V : View} {s : Sl} {zs : List Cq} (h : T0k V s zs) {t : Int} (h0 : 0 ≤ t) (h1 : t.toNat < zs.length) :
 ((0 : Int) ≤ t ∧ t < (s.len : Nat) ∧ Option.isSome s.a = true) ∧
 ∃ x : NumV, V.has (Option.map (fun q => Addr.add q (Int.toNat t * 5)) s.a) x.val.cells.toList ∧ Option.isSome (Option.map (fun q => Addr.add q (Int.toNat t * 5)) s.a) = true ∧ S01 V x (nth zs t.toNat) := by
 obtain ⟨hb, x, ⟨n, e, hn⟩, _, h1, h2⟩ := P02.get h h0 (H0r h1)
 exact ⟨hb, n, e ▸ h1, h2, hn⟩
theorem E07.zeros (V : View) (n : Nat) : E07 V ((List.replicate n [Value.bool false, Value.slice none 0 0, Value.bool false, Value.slice none 0 0, Value.slice none 0 0]).flatten) (List.replicate n Cq.zero) :=
 Y02.replicate (x := [Value.bool false, Value.slice none 0 0, Value.bool false, Value.slice none 0 0, Value.slice none 0 0]) rfl ⟨_, rfl, S01.zero V⟩ n
theorem E07.set {V : View} {o : List Value} {zs : List Cq} (h : E07 V o zs) {i : Nat} (hi : i < zs.length) {r : NumV} {z : Cq} (hr : S01 V r z) :
 E07 V (setL o (0 + i * 5) [.bool r.re.neg, r.re.mag.v, .bool r.im.neg, r.im.mag.v, r.under.v]) (zs.set i z) := y0q h hi rfl ⟨r, rfl, hr⟩
theorem E07.push {V : View} {o : List Value} {zs : List Cq} (h : E07 V o zs) {r : NumV} {z : Cq} (hr : S01 V r z) :
 E07 V (o ++ [.bool r.re.neg, r.re.mag.v, .bool r.im.neg, r.im.mag.v, r.under.v]) (zs ++ [z]) := Y02.append h (Y02.one rfl ⟨r, rfl, hr⟩)
def Z0w (h k : Nat) (a b : Nat → Cq) : List Cq := (List.range (2 * h)).map fun i => if i < h then (if i < k then a i else Cq.zero) else (if i - h < k then b (i - h) else Cq.zero)
theorem Y02.cut {α : Type} {sz : Nat} {P : View → List Value → α → Prop} {V : View} : ∀ {zs : List α} {o : List Value}, Y02 sz P V o zs → ∀ {i : Nat} {z : α}, zs[i]? = some z → P V ((o.drop (i * sz)).take sz) z
 | [], _, _, i, z, hi => by simp at hi
 | z0 :: zs, _, ⟨x, o', e, hx, p, h⟩, 0, z, hi => by
   simp at hi; subst hi
   rw [e, Nat.zero_mul, List.drop_zero, List.take_append_of_le_length (by omega), List.take_of_length_le (by omega)]; exact p
 | z0 :: zs, _, ⟨x, o', e, hx, p, h⟩, i + 1, z, hi => by
   simp at hi
   have := h.cut hi
   have e2 : (i + 1) * sz = x.length + i * sz := by rw [hx, Nat.add_mul]; omega
   rw [e, e2, ← List.drop_drop, List.drop_left]; exact this
theorem E07.cut {V : View} {o : List Value} {zs : List Cq} (h : E07 V o zs) {i : Nat} (hi : i < zs.length) :
 ∃ x : NumV, List.take 5 (List.drop (0 + i * 5) o) = x.val.cells.toList ∧ S01 V x (nth zs i) := by
 rw [Nat.zero_add]
 exact Y02.cut h (H0r hi)

def infR : Nat := 9218868437227405312
def rm (r : Nat) : Nat := if r < 2 ^ 52 then r else (2 ^ 52 + r % 2 ^ 52) * 2 ^ (r / 2 ^ 52 - 1)
theorem f07 {m e : Nat} (h : (e = 0 ∨ 2 ^ 52 ≤ m) ∧ m ≤ 2 ^ 53) : rm (e * 2 ^ 52 + m) = m * 2 ^ e := by
 obtain ⟨h1, h2⟩ := h
 unfold rm
 by_cases c : m < 2 ^ 52
 · have : e = 0 := by omega
   subst this
   rw [if_pos (by omega)]; simp
 · rw [if_neg (by omega)]
   by_cases c2 : m < 2 ^ 53
   · have e1 : (e * 2 ^ 52 + m) / 2 ^ 52 = e + 1 := by omega
     have e2 : (e * 2 ^ 52 + m) % 2 ^ 52 = m - 2 ^ 52 := by omega
     rw [e1, e2]
     have : 2 ^ 52 + (m - 2 ^ 52) = m := by omega
     rw [this, Nat.add_sub_cancel]
   · have hm : m = 2 ^ 53 := by omega
     subst hm
     have e1 : (e * 2 ^ 52 + 2 ^ 53) / 2 ^ 52 = e + 2 := by omega
     have e2 : (e * 2 ^ 52 + 2 ^ 53) % 2 ^ 52 = 0 := by omega
     rw [e1, e2]
     have e3 : e + 2 - 1 = e + 1 := by omega
     have e4 : 2 ^ (e + 1) = 2 ^ e * 2 := Nat.pow_succ 2 e
     rw [e3, e4]
     generalize 2 ^ e = x
     omega
theorem T0g (r : Nat) : ∃ m, r = (r / 2 ^ 52 - 1) * 2 ^ 52 + m ∧ (r / 2 ^ 52 - 1 = 0 ∨ 2 ^ 52 ≤ m) ∧ m < 2 ^ 53 := by
 refine ⟨r - (r / 2 ^ 52 - 1) * 2 ^ 52, ?_⟩
 omega
theorem I0r (r : Nat) : rm (r + 1) = rm r + 2 ^ (r / 2 ^ 52 - 1) := by
 obtain ⟨m, h1, h2, h3⟩ := T0g r
 generalize r / 2 ^ 52 - 1 = e at h1 h2
 subst h1
 rw [Nat.add_assoc, f07 ⟨by omega, by omega⟩, f07 ⟨by omega, by omega⟩, Nat.add_mul, Nat.one_mul]
theorem D0e {a b : Nat} (h : a < b) : rm a < rm b := by
 obtain ⟨d, rfl⟩ : ∃ d, b = a + 1 + d := ⟨b - (a + 1), by omega⟩
 induction d with
 | zero => rw [Nat.add_zero, I0r]; have : 0 < 2 ^ (a / 2 ^ 52 - 1) := Nat.pow_pos (by omega); omega
 | succ d ih =>
   rw [← Nat.add_assoc, I0r]
   have := ih (by omega)
   have h2 : 0 < 2 ^ ((a + 1 + d) / 2 ^ 52 - 1) := Nat.pow_pos (by omega)
   omega
theorem M08 {a b : Nat} : rm a < rm b ↔ a < b := by
 refine ⟨fun h => ?_, D0e⟩
 rcases Nat.lt_or_ge a b with c | c
 · exact c
 · rcases Nat.eq_or_lt_of_le c with c | c
   · subst c; omega
   · have := D0e c; omega
theorem N08 {a b : Nat} : rm a ≤ rm b ↔ a ≤ b := by
 rw [← Nat.not_lt, ← Nat.not_lt, M08]
theorem k0w {a b : Nat} (h : rm a = rm b) : a = b := by
 have h1 := M08 (a := a) (b := b)
 have h2 := M08 (a := b) (b := a)
 omega
theorem O08 : rm 0 = 0 := by decide
theorem J0r {a : Nat} (h : 0 < a) : 0 < rm a := by have := D0e h; rw [O08] at this; exact this
theorem E0e : Ieee.double.infRung = infR := by decide
theorem P08 : Ieee.double.binade = 2 ^ 52 := rfl
theorem E0i : Ieee.double.signWeight = 2 ^ 63 := rfl
theorem D09 : Ieee.double.leastPlace = -1074 := by decide
def okW (w : Nat) : Prop := w < 2 ^ 64 ∧ w % 2 ^ 63 ≤ infR
instance (w : Nat) : Decidable (okW w) := inferInstanceAs (Decidable (_ ∧ _))
def finW (w : Nat) : Prop := w < 2 ^ 64 ∧ w % 2 ^ 63 < infR
theorem finW.ok {w : Nat} (h : finW w) : okW w := ⟨h.1, Nat.le_of_lt h.2⟩
theorem x0t {w : Nat} (h : w % 2 ^ 63 < infR) :
 ∃ m e : Nat, Ieee.double.read w = .number (w / 2 ^ 63 % 2 == 1) m (-1074 + (e : Int)) ∧ rm (w % 2 ^ 63) = m * 2 ^ e ∧ ((e = 0 ∨ 2 ^ 52 ≤ m) ∧ m < 2 ^ 53) ∧ w % 2 ^ 63 = e * 2 ^ 52 + m := by
 unfold Ieee.Format.read
 simp only [P08, E0i, E0e, D09]
 generalize w % 2 ^ 63 = r at h
 by_cases c : r < 2 ^ 52
 · rw [if_pos c]
   refine ⟨r, 0, by simp, ?_, ⟨by omega, by omega⟩, by omega⟩
   unfold rm; rw [if_pos c]; omega
 · rw [if_neg c, if_pos h]
   refine ⟨2 ^ 52 + r % 2 ^ 52, r / 2 ^ 52 - 1, rfl, ?_, ⟨by omega, by omega⟩, by omega⟩
   unfold rm; rw [if_neg c]
theorem D0d {w : Nat} (h : w % 2 ^ 63 = infR) : Ieee.double.read w = .infinity (w / 2 ^ 63 % 2 == 1) := by
 unfold Ieee.Format.read
 simp only [P08, E0i, E0e, D09, h]
 rw [if_neg (by decide), if_neg (by decide), if_pos trivial]
theorem y0t {w : Nat} (h : infR < w % 2 ^ 63) : ∃ s f, Ieee.double.read w = .nan s f := by
 unfold Ieee.Format.read
 simp only [P08, E0i, E0e, D09]
 have : 2 ^ 52 ≤ infR := by decide
 rw [if_neg (by omega), if_neg (by omega), if_neg (by omega)]
 exact ⟨_, _, rfl⟩
def key (w : Nat) : Int := if w < 2 ^ 63 then (w : Int) else -((w - 2 ^ 63 : Nat) : Int)
def kz (k : Int) : Int := if k < 0 then -(rm k.natAbs : Int) else (rm k.natAbs : Int)
theorem i0v {a b : Int} (h : a < b) : kz a < kz b := by
 unfold kz
 split <;> split
 · have := D0e (a := b.natAbs) (b := a.natAbs) (by omega); omega
 · have := J0r (a := a.natAbs) (by omega); omega
 · omega
 · have := D0e (a := a.natAbs) (b := b.natAbs) (by omega); omega
theorem C0b {a b : Int} : kz a < kz b ↔ a < b := by
 refine ⟨fun h => ?_, i0v⟩
 rcases Int.lt_or_le a b with c | c
 · exact c
 · rcases Int.lt_or_eq_of_le c with c | c
   · have := i0v c; omega
   · subst c; omega
theorem K0r (k : Int) : kz (-k) = -kz k := by
 unfold kz
 rw [Int.natAbs_neg]
 by_cases c : k = 0
 · subst c; simp [O08]
 · split <;> split <;> omega
theorem F0e {w : Nat} (h : w < 2 ^ 64) : (w / 2 ^ 63 % 2 == 1) = decide (2 ^ 63 ≤ w) := by
 by_cases c : w < 2 ^ 63
 · have : w / 2 ^ 63 = 0 := by omega
   rw [this, decide_eq_false (by omega)]; rfl
 · have : w / 2 ^ 63 = 1 := by omega
   rw [this, decide_eq_true (by omega)]; rfl
theorem F0i {w : Nat} (h : w < 2 ^ 64) : (key w).natAbs = w % 2 ^ 63 := by
 unfold key; split <;> omega
theorem L0r {a b c d : Int} (h1 : a < b ↔ c < d) (h2 : b < a ↔ d < c) : compare a b = compare c d := by
 show compareOfLessAndEq a b = compareOfLessAndEq c d
 unfold compareOfLessAndEq
 by_cases x : a < b
 · rw [if_pos x, if_pos (h1.1 x)]
 · rw [if_neg x, if_neg (fun y => x (h1.2 y))]
   by_cases y : a = b
   · rw [if_pos y, if_pos (by omega)]
   · rw [if_neg y, if_neg (by omega)]
theorem O0c {s : Bool} {m u e g : Nat} (h : u + g = e) : Ieee.signed s m u * ((2 ^ g : Nat) : Int) = if s then -((m * 2 ^ e : Nat) : Int) else ((m * 2 ^ e : Nat) : Int) := by
 unfold Ieee.signed
 rw [Nat.shiftLeft_eq]
 have : m * 2 ^ e = m * 2 ^ u * 2 ^ g := by rw [← h, Nat.pow_add, Nat.mul_assoc]
 rw [this]
 cases s <;> simp [Int.neg_mul]
theorem G0i {w : Nat} (h : finW w) : ∃ m e : Nat, Ieee.double.read w = .number (decide (2 ^ 63 ≤ w)) m (-1074 + (e : Int)) ∧ (if decide (2 ^ 63 ≤ w) = true then -((m * 2 ^ e : Nat) : Int) else ((m * 2 ^ e : Nat) : Int)) = kz (key w) := by
 obtain ⟨m, e, h1, h2, _⟩ := x0t h.2
 rw [F0e h.1] at h1
 refine ⟨m, e, h1, ?_⟩
 rw [← h2]
 unfold kz
 rw [F0i h.1]
 by_cases c : 2 ^ 63 ≤ w
 · rw [if_pos (by simpa using c)]
   by_cases z : key w < 0
   · rw [if_pos z]
   · rw [if_neg z]
     have : w % 2 ^ 63 = 0 := by unfold key at z; split at z <;> omega
     rw [this, O08]; rfl
 · rw [if_neg (by simpa using c), if_neg (by unfold key; rw [if_pos (by omega)]; omega)]
theorem H0i {w : Nat} (h : okW w) (hi : w % 2 ^ 63 = infR) : key w = if decide (2 ^ 63 ≤ w) = true then -(infR : Int) else (infR : Int) := by
 obtain ⟨h1, h2⟩ := h
 by_cases c : 2 ^ 63 ≤ w
 · rw [decide_eq_true c, if_pos rfl]
   unfold key infR at *
   rw [if_neg (by omega)]; omega
 · rw [decide_eq_false c, if_neg (by simp)]
   unfold key infR at *
   rw [if_pos (by omega)]; omega
theorem M0r {w : Nat} (h : finW w) : -(infR : Int) < key w ∧ key w < (infR : Int) := by
 obtain ⟨h1, h2⟩ := h
 unfold key infR at *
 split <;> omega
theorem okW.cases {w : Nat} (h : okW w) : finW w ∨ w % 2 ^ 63 = infR := by
 rcases Nat.lt_or_ge (w % 2 ^ 63) infR with c | c
 · exact .inl ⟨h.1, c⟩
 · exact .inr (by have := h.2; omega)
theorem D06 {x y : Nat} (hx : okW x) (hy : okW y) : FloatKind.f64.format.order x y = some (compare (key x) (key y)) := by
 show (Ieee.double.read x).order (Ieee.double.read y) = _
 have hI : (0 : Int) < (infR : Int) := by decide
 rcases hx.cases with fx | ix <;> rcases hy.cases with fy | iy
 · obtain ⟨m, e, h1, h2⟩ := G0i fx
   obtain ⟨n, g, h3, h4⟩ := G0i fy
   rw [h1, h3]
   simp only [Ieee.Datum.order]
   have b1 : (-1074 + (e : Int) - min (-1074 + (e : Int)) (-1074 + (g : Int))).toNat + min e g = e := by omega
   have b2 : (-1074 + (g : Int) - min (-1074 + (e : Int)) (-1074 + (g : Int))).toNat + min e g = g := by omega
   have s1 := O0c (s := decide (2 ^ 63 ≤ x)) (m := m) b1
   have s2 := O0c (s := decide (2 ^ 63 ≤ y)) (m := n) b2
   rw [h2] at s1
   rw [h4] at s2
   have hp : (0 : Int) < ((2 ^ min e g : Nat) : Int) := by have : 0 < 2 ^ min e g := Nat.pow_pos (by omega); omega
   congr 1
   refine L0r ?_ ?_
   · refine Iff.trans ?_ C0b
     rw [← s1, ← s2]; exact (Int.mul_lt_mul_right hp).symm
   · refine Iff.trans ?_ C0b
     rw [← s1, ← s2]; exact (Int.mul_lt_mul_right hp).symm
 · obtain ⟨m, e, h1, h2⟩ := G0i fx
   have k := M0r fx
   rw [h1, D0d iy, F0e hy.1, H0i hy iy]
   simp only [Ieee.Datum.order]
   cases decide (2 ^ 63 ≤ y)
   · simp only [Bool.false_eq_true, if_false]
     congr 1
     show _ = compareOfLessAndEq _ _
     unfold compareOfLessAndEq; rw [if_pos (by omega)]
   · simp only [if_true]
     congr 1
     show _ = compareOfLessAndEq _ _
     unfold compareOfLessAndEq; rw [if_neg (by omega), if_neg (by omega)]
 · obtain ⟨m, e, h1, h2⟩ := G0i fy
   have k := M0r fy
   rw [h1, D0d ix, F0e hx.1, H0i hx ix]
   simp only [Ieee.Datum.order]
   cases decide (2 ^ 63 ≤ x)
   · simp only [Bool.false_eq_true, if_false]
     congr 1
     show _ = compareOfLessAndEq _ _
     unfold compareOfLessAndEq; rw [if_neg (by omega), if_neg (by omega)]
   · simp only [if_true]
     congr 1
     show _ = compareOfLessAndEq _ _
     unfold compareOfLessAndEq; rw [if_pos (by omega)]
 · rw [D0d ix, D0d iy, F0e hx.1, F0e hy.1, H0i hx ix, H0i hy iy]
   simp only [Ieee.Datum.order]
   cases decide (2 ^ 63 ≤ x) <;> cases decide (2 ^ 63 ≤ y) <;> decide
theorem K0a {x y : Nat} (h : infR < x % 2 ^ 63) : FloatKind.f64.format.order x y = none := by
 show (Ieee.double.read x).order (Ieee.double.read y) = _
 obtain ⟨s, f, e⟩ := y0t h
 rw [e]; rfl
theorem N0r {x y : Nat} (hx : okW x) (hy : okW y) : (FloatKind.f64.format.order x y == some .lt) = decide (key x < key y) := by
 rw [D06 hx hy]
 show (some (compareOfLessAndEq _ _) == _) = _
 unfold compareOfLessAndEq
 by_cases c : key x < key y
 · rw [if_pos c, decide_eq_true c]; rfl
 · rw [if_neg c, decide_eq_false c]; split <;> rfl
theorem m0a {x y : Nat} (hx : okW x) (hy : okW y) : (FloatKind.f64.format.order x y == some .gt) = decide (key y < key x) := by
 rw [D06 hx hy]
 show (some (compareOfLessAndEq _ _) == _) = _
 unfold compareOfLessAndEq
 by_cases c : key x < key y
 · rw [if_pos c, decide_eq_false (by omega)]; rfl
 · rw [if_neg c]
   by_cases c2 : key x = key y
   · rw [if_pos c2, decide_eq_false (by omega)]; rfl
   · rw [if_neg c2, decide_eq_true (by omega)]; rfl
theorem l08 {x y : Nat} (hx : okW x) (hy : okW y) : (FloatKind.f64.format.order x y == some .eq) = decide (key x = key y) := by
 rw [D06 hx hy]
 show (some (compareOfLessAndEq _ _) == _) = _
 unfold compareOfLessAndEq
 by_cases c : key x < key y
 · rw [if_pos c, decide_eq_false (by omega)]; rfl
 · rw [if_neg c]
   by_cases c2 : key x = key y
   · rw [if_pos c2, decide_eq_true c2]; rfl
   · rw [if_neg c2, decide_eq_false c2]; rfl
theorem l0w {x y : Nat} (hx : okW x) (hy : okW y) : ((FloatKind.f64.format.order x y == some .lt) || (FloatKind.f64.format.order x y == some .eq)) = decide (key x ≤ key y) := by
 rw [N0r hx hy, l08 hx hy, ← Bool.decide_or]; congr 1; apply propext; omega
theorem m0w {x y : Nat} (hx : okW x) (hy : okW y) : ((FloatKind.f64.format.order x y == some .gt) || (FloatKind.f64.format.order x y == some .eq)) = decide (key y ≤ key x) := by
 rw [m0a hx hy, l08 hx hy, ← Bool.decide_or]; congr 1; apply propext; omega
def k00 (k : Int) : Nat := if k < 0 then 2 ^ 63 + k.natAbs else k.natAbs
theorem z0t {k : Int} (h1 : -(infR : Int) ≤ k) (h2 : k ≤ (infR : Int)) : okW (k00 k) := by
 unfold k00 okW infR at *; split <;> omega
theorem O0r {k : Int} (h1 : -(infR : Int) < k) (h2 : k < (infR : Int)) : finW (k00 k) := by
 unfold k00 finW infR at *; split <;> omega
theorem P0r {k : Int} (h1 : -(infR : Int) ≤ k) (h2 : k ≤ (infR : Int)) : key (k00 k) = k := by
 unfold key k00 infR at *
 by_cases c : k < 0
 · rw [if_pos c, if_neg (by omega)]; omega
 · rw [if_neg c, if_pos (by omega)]; omega
theorem U0k {w : Nat} (h : w < 2 ^ 64) (hz : w ≠ 2 ^ 63) : k00 (key w) = w := by
 unfold k00 key
 by_cases c : w < 2 ^ 63
 · rw [if_pos c, if_neg (by omega)]; omega
 · rw [if_neg c, if_pos (by omega)]; omega
theorem Z04 {w : Nat} (h : w < 2 ^ 64) : Op.negFloat .f64 w = if w < 2 ^ 63 then w + 2 ^ 63 else w - 2 ^ 63 := by
 show w ^^^ 2 ^ 63 = _
 have h1 : (w ^^^ 2 ^ 63) % 2 ^ 63 = w % 2 ^ 63 := by
  rw [Nat.xor_mod_two_pow, Nat.mod_self, Nat.xor_zero]
 have h2 : (w ^^^ 2 ^ 63) / 2 ^ 63 = w / 2 ^ 63 ^^^ 1 := by
  rw [Nat.xor_div_two_pow, Nat.div_self (by omega)]
 by_cases c : w < 2 ^ 63
 · rw [if_pos c]
   have e : w / 2 ^ 63 = 0 := by omega
   rw [e] at h2
   have h3 : (0 ^^^ 1 : Nat) = 1 := by decide
   rw [h3] at h2
   omega
 · rw [if_neg c]
   have e : w / 2 ^ 63 = 1 := by omega
   rw [e] at h2
   have h3 : (1 ^^^ 1 : Nat) = 0 := by decide
   rw [h3] at h2
   omega
theorem Q08 {w : Nat} (h : okW w) : okW (Op.negFloat .f64 w) ∧ key (Op.negFloat .f64 w) = -key w := by
 rw [Z04 h.1]
 obtain ⟨h1, h2⟩ := h
 unfold okW key infR at *
 by_cases c : w < 2 ^ 63
 · rw [if_pos c, if_pos c]
   refine ⟨by omega, ?_⟩
   rw [if_neg (by omega)]; omega
 · rw [if_neg c, if_neg c]
   refine ⟨by omega, ?_⟩
   rw [if_pos (by omega)]; omega
theorem W0k {neg : Bool} {q drop : Nat} (h : q ≠ 0) : Ieee.Toward.even.cut neg (q * 2 ^ drop) drop = q := by
 have hp : 0 < 2 ^ drop := Nat.pow_pos (by omega)
 have hn : q * 2 ^ drop ≠ 0 := Nat.mul_ne_zero h (by omega)
 have hle : 2 ^ drop ≤ q * 2 ^ drop := Nat.le_mul_of_pos_left _ (by omega)
 have hl : drop ≤ (q * 2 ^ drop).log2 := (Nat.le_log2 hn).2 hle
 unfold Ieee.Toward.cut
 have e : 1 <<< min drop ((q * 2 ^ drop).log2 + 2) = 2 ^ drop := by
  rw [Nat.min_eq_left (by omega), Nat.shiftLeft_eq, Nat.one_mul]
 simp only [e, Nat.mul_div_cancel _ hp, Nat.mul_mod_left]
 have h1 : decide (2 ^ drop < 2 * 0) = false := by simp
 have h2 : (2 ^ drop == 2 * 0) = false := by simp
 rw [h1, h2]; simp
theorem E0d {n k : Nat} (h : n ≠ 0) : (n * 2 ^ k).log2 = n.log2 + k := by
 have hn : n * 2 ^ k ≠ 0 := Nat.mul_ne_zero h (by have : 0 < 2 ^ k := Nat.pow_pos (by omega); omega)
 have h1 := (Nat.log2_eq_iff h (k := n.log2)).1 rfl
 refine (Nat.log2_eq_iff hn).2 ⟨?_, ?_⟩
 · rw [Nat.pow_add]; exact Nat.mul_le_mul_right _ h1.1
 · have e : n.log2 + k + 1 = (n.log2 + 1) + k := by omega
   rw [e, Nat.pow_add]; exact Nat.mul_lt_mul_of_pos_right h1.2 (Nat.pow_pos (by omega))
theorem a08 {neg : Bool} {mag : Nat} {e04 : Int} {r : Nat} (hr : r < infR) (h0 : mag ≠ 0) {a b : Nat} (hab : e04 + 1074 = (a : Int) - b) (h : mag * 2 ^ a = rm r * 2 ^ b) :
 Ieee.double.nearest neg mag e04 = Ieee.double.word neg r := by
 obtain ⟨m, h1, h2, h3⟩ := T0g r
 generalize r / 2 ^ 52 - 1 = e at h1 h2
 have hrm : rm r = m * 2 ^ e := by rw [h1]; exact f07 ⟨by omega, by omega⟩
 rw [hrm, Nat.mul_assoc, ← Nat.pow_add] at h
 have hpa : 0 < 2 ^ a := Nat.pow_pos (by omega)
 have hm : m ≠ 0 := by
  intro c; rw [c, Nat.zero_mul] at h
  have := Nat.mul_ne_zero h0 (by omega : 2 ^ a ≠ 0)
  omega
 have hlog := congrArg Nat.log2 h
 rw [E0d h0, E0d hm] at hlog
 have hlast : max (e04 + (mag.log2 : Int) - (Ieee.double.fractionBits : Int)) Ieee.double.leastPlace = (e : Int) - 1074 := by
  rw [D09]
  show max (e04 + (mag.log2 : Int) - 52) (-1074) = _
  rcases h2 with h2 | h2
  · have : m.log2 ≤ 52 := by
      have := (Nat.log2_lt hm (k := 53)).2 h3
      omega
    omega
  · have : m.log2 = 52 := (Nat.log2_eq_iff hm).2 ⟨h2, h3⟩
    omega
 unfold Ieee.Format.nearest
 rw [if_neg h0]
 simp only [hlast]
 have hkept : Ieee.Toward.even.cut neg (mag <<< (e04 - ((e : Int) - 1074)).toNat) ((e : Int) - 1074 - e04).toNat = m := by
  rw [Nat.shiftLeft_eq]
  by_cases c : e + b ≤ a
  · have e1 : (e04 - ((e : Int) - 1074)).toNat = a - (e + b) := by omega
    have e2 : ((e : Int) - 1074 - e04).toNat = 0 := by omega
    rw [e1, e2]
    have : mag * 2 ^ (a - (e + b)) = m := by
     have hp : 0 < 2 ^ (e + b) := Nat.pow_pos (by omega)
     refine Nat.eq_of_mul_eq_mul_right hp ?_
     rw [Nat.mul_assoc, ← Nat.pow_add, Nat.sub_add_cancel c, h]
    rw [this]
    have := W0k (neg := neg) (drop := 0) hm
    rw [Nat.pow_zero, Nat.mul_one] at this; exact this
  · have e1 : (e04 - ((e : Int) - 1074)).toNat = 0 := by omega
    have e2 : ((e : Int) - 1074 - e04).toNat = e + b - a := by omega
    rw [e1, e2, Nat.pow_zero, Nat.mul_one]
    have : mag = m * 2 ^ (e + b - a) := by
     refine Nat.eq_of_mul_eq_mul_right hpa ?_
     rw [Nat.mul_assoc, ← Nat.pow_add, Nat.sub_add_cancel (by omega), h]
    rw [this]
    exact W0k hm
 rw [hkept, D09, P08, E0e]
 have e3 : ((e : Int) - 1074 - -1074).toNat = e := by omega
 rw [e3, ← h1, Nat.min_eq_left (by omega)]
theorem Z0f {neg : Bool} {mag : Nat} {e04 : Int} {r : Nat} (hr : r < infR) (h0 : mag ≠ 0) {a : Nat} (hab : e04 + 1074 = (a : Int)) (h : mag * 2 ^ a = rm r) :
 Ieee.double.nearest neg mag e04 = Ieee.double.word neg r := a08 hr h0 (a := a) (b := 0) (by omega) (by rw [h, Nat.pow_zero, Nat.mul_one])
theorem j0v {n k : Nat} (h0 : n ≠ 0) (h : n < 2 ^ 53) : ∃ r, rm r = n * 2 ^ k ∧ (52 ≤ n.log2 + k → r = (n.log2 + k - 52) * 2 ^ 52 + n * 2 ^ (52 - n.log2) ∧ 2 ^ 52 ≤ n * 2 ^ (52 - n.log2) ∧ n * 2 ^ (52 - n.log2) < 2 ^ 53) := by
 have hl := (Nat.log2_eq_iff h0 (k := n.log2)).1 rfl
 have h52 : n.log2 ≤ 52 := by have := (Nat.log2_lt h0 (k := 53)).2 h; omega
 by_cases c : 52 ≤ n.log2 + k
 · have b1 : 2 ^ 52 ≤ n * 2 ^ (52 - n.log2) := by
     have e : (2 : Nat) ^ 52 = 2 ^ n.log2 * 2 ^ (52 - n.log2) := by rw [← Nat.pow_add]; congr 1; omega
     rw [e]; exact Nat.mul_le_mul_right _ hl.1
   have b2 : n * 2 ^ (52 - n.log2) < 2 ^ 53 := by
    have e : (2 : Nat) ^ 53 = 2 ^ (n.log2 + 1) * 2 ^ (52 - n.log2) := by rw [← Nat.pow_add]; congr 1; omega
    rw [e]; exact Nat.mul_lt_mul_of_pos_right hl.2 (Nat.pow_pos (by omega))
   refine ⟨(n.log2 + k - 52) * 2 ^ 52 + n * 2 ^ (52 - n.log2), ?_, fun _ => ⟨rfl, b1, b2⟩⟩
   rw [f07 ⟨.inr b1, by omega⟩, Nat.mul_assoc, ← Nat.pow_add]
   congr 2; omega
 · refine ⟨n * 2 ^ k, ?_, fun h => absurd h c⟩
   have : n * 2 ^ k < 2 ^ 52 := by
    have h1 : n * 2 ^ k < 2 ^ (n.log2 + 1) * 2 ^ k := Nat.mul_lt_mul_of_pos_right hl.2 (Nat.pow_pos (by omega))
    rw [← Nat.pow_add] at h1
    have h2 : 2 ^ (n.log2 + 1 + k) ≤ 2 ^ 52 := Nat.pow_le_pow_right (by omega) (by omega)
    omega
   unfold rm; rw [if_pos this]
theorem n0w {r e : Nat} (h : r = e * 2 ^ 52 + 2 ^ 52) : rm r = 2 ^ 52 * 2 ^ e := by rw [h]; exact f07 ⟨.inr (Nat.le_refl _), by omega⟩
theorem o0w {r e : Nat} (h : r = e * 2 ^ 52 + (2 ^ 53 - 1)) : rm r = (2 ^ 53 - 1) * 2 ^ e := by rw [h]; exact f07 ⟨.inr (by omega), by omega⟩
theorem Q0r {a b : Nat} (h : a < b) : 2 ^ a < 2 ^ b := (Nat.pow_lt_pow_iff_right (by omega)).2 h
theorem q0w {a b : Nat} (h : a = b + 1) : 2 ^ 52 * 2 ^ a = 2 ^ 53 * 2 ^ b := by
 subst h; rw [Nat.pow_succ]; omega
theorem G0e {e : Nat} (he : e = 2046) : rm infR = 2 ^ (52 + e) := by
 rw [Nat.pow_add]; exact n0w (by subst he; decide)
theorem s0w {r n k : Nat} (h : rm r = n * 2 ^ k) (hn : n.log2 + k < 2098) (h0 : n ≠ 0) : r < infR := by
 obtain ⟨e, he⟩ : ∃ e, e = 2046 := ⟨_, rfl⟩
 rw [← M08, h, G0e he]
 have hl := (Nat.log2_eq_iff h0 (k := n.log2)).1 rfl
 have h1 : n * 2 ^ k < 2 ^ (n.log2 + 1) * 2 ^ k := Nat.mul_lt_mul_of_pos_right hl.2 (Nat.pow_pos (by omega))
 rw [← Nat.pow_add] at h1
 exact Nat.lt_of_lt_of_le h1 (Nat.pow_le_pow_right (by omega) (by omega))
theorem t0w {r n k : Nat} (h : rm r = n * 2 ^ k) (hr : r < infR) (h0 : n ≠ 0) : n.log2 + k < 2098 := by
 obtain ⟨e, he⟩ : ∃ e, e = 2046 := ⟨_, rfl⟩
 rw [← M08, h, G0e he] at hr
 have hl := (Nat.log2_eq_iff h0 (k := n.log2)).1 rfl
 have h1 : 2 ^ n.log2 * 2 ^ k ≤ n * 2 ^ k := Nat.mul_le_mul_right _ hl.1
 rw [← Nat.pow_add] at h1
 have h2 : 2 ^ (n.log2 + k) < 2 ^ (52 + e) := Nat.lt_of_le_of_lt h1 hr
 have := (Nat.pow_lt_pow_iff_right (by omega)).1 h2
 omega
theorem X0k {e m : Nat} (he : e ≤ 2045) (h1 : 2 ^ 52 ≤ m) (h2 : m < 2 ^ 53) : Ieee.double.read (e * 2 ^ 52 + m) = .number false m (-1074 + (e : Int)) := by
 have hb : e * 2 ^ 52 + m < 2 ^ 63 := by omega
 unfold Ieee.Format.read
 simp only [P08, E0i, E0e, D09]
 have e1 : (e * 2 ^ 52 + m) / 2 ^ 63 = 0 := Nat.div_eq_of_lt hb
 have e2 : (e * 2 ^ 52 + m) % 2 ^ 63 = e * 2 ^ 52 + m := Nat.mod_eq_of_lt hb
 rw [e1, e2]
 have hi : e * 2 ^ 52 + m < infR := by unfold infR; omega
 rw [if_neg (by omega), if_pos hi]
 have e3 : (e * 2 ^ 52 + m) % 2 ^ 52 = m - 2 ^ 52 := by omega
 have e4 : (e * 2 ^ 52 + m) / 2 ^ 52 = e + 1 := by omega
 rw [e3, e4]
 have e5 : 2 ^ 52 + (m - 2 ^ 52) = m := by omega
 rw [e5]; rfl
theorem Y0k {x y r : Nat} {m n : Nat} {i j : Int} (hx : Ieee.double.read x = .number false m i) (hy : Ieee.double.read y = .number false n j) (hr : r < infR) (h0 : m ≠ 0) (h1 : n ≠ 0) {a b : Nat} (hab : i + j + 1074 = (a : Int) - b) (h : m * n * 2 ^ a = rm r * 2 ^ b) :
 FloatKind.f64.format.mul x y = some r := by
 show ((Ieee.double.read x).product (Ieee.double.read y)).map Ieee.double.write = some r
 rw [hx, hy]
 show some (Ieee.double.nearest false (m * n) (i + j)) = some r
 rw [a08 hr (Nat.mul_ne_zero h0 h1) hab h]; rfl
theorem Z0m {n : Nat} (h0 : n ≠ 0) (h : n < 2 ^ 53) : FloatKind.f64.nearest (n : Int) = (n.log2 + 1022) * 2 ^ 52 + n * 2 ^ (52 - n.log2) ∧ 2 ^ 52 ≤ n * 2 ^ (52 - n.log2) ∧ n * 2 ^ (52 - n.log2) < 2 ^ 53 := by
 obtain ⟨r, hr, hd⟩ := j0v (k := 1074) h0 h
 obtain ⟨h1, h2, h3⟩ := hd (by omega)
 have h52 : n.log2 ≤ 52 := by have := (Nat.log2_lt h0 (k := 53)).2 h; omega
 refine ⟨?_, h2, h3⟩
 have e : n.log2 + 1074 - 52 = n.log2 + 1022 := by omega
 rw [e] at h1
 rw [← h1]
 show Ieee.double.nearest (decide ((n : Int) < 0)) (n : Int).natAbs 0 = r
 have e2 : decide ((n : Int) < 0) = false := decide_eq_false (by omega)
 rw [e2, Int.natAbs_natCast, a08 (r := r) (s0w hr (by omega) h0) h0 (a := 1074) (b := 0) (by omega) (by rw [hr, Nat.pow_zero, Nat.mul_one])]
 rfl
theorem Z0k {n : Nat} (h0 : n ≠ 0) (h : n ≤ 2 ^ 53) : ∃ e m, FloatKind.f64.nearest (n : Int) = e * 2 ^ 52 + m ∧ 2 ^ 52 ≤ m ∧ m < 2 ^ 53 ∧ m * 2 ^ e = n * 2 ^ 1074 ∧ 1022 ≤ e ∧ e ≤ 1075 := by
 by_cases c : n < 2 ^ 53
 · obtain ⟨h1, h2, h3⟩ := Z0m h0 c
   have h52 : n.log2 ≤ 52 := by have := (Nat.log2_lt h0 (k := 53)).2 c; omega
   refine ⟨_, _, h1, h2, h3, ?_, by omega, by omega⟩
   have e : 52 - n.log2 + (n.log2 + 1022) = 1074 := by omega
   rw [Nat.mul_assoc, ← Nat.pow_add, e]
 · have : n = 2 ^ 53 := by omega
   subst this
   have hr : rm (1075 * 2 ^ 52 + 2 ^ 52) = 2 ^ 52 * 2 ^ 1075 := n0w (r := 1075 * 2 ^ 52 + 2 ^ 52) (e := 1075) rfl
   have hi : 1075 * 2 ^ 52 + 2 ^ 52 < infR := by unfold infR; omega
   have e3 : 2 ^ 52 * 2 ^ 1075 = 2 ^ 53 * 2 ^ 1074 := q0w (a := 1075) (b := 1074) rfl
   have h5 : 2 ^ 53 * 2 ^ 1074 = rm (1075 * 2 ^ 52 + 2 ^ 52) := e3.symm.trans hr.symm
   refine ⟨1075, 2 ^ 52, ?_, by omega, by omega, e3, by omega, by omega⟩
   show Ieee.double.nearest (decide (((2 ^ 53 : Nat) : Int) < 0)) ((2 ^ 53 : Nat) : Int).natAbs 0 = _
   have e2 : decide (((2 ^ 53 : Nat) : Int) < 0) = false := decide_eq_false (by omega)
   rw [e2, Int.natAbs_natCast, Z0f hi (by omega) (a := 1074) (by omega) h5]
   rfl
theorem w0d : FloatKind.f64.nearest 0 = 0 := by decide

structure Q02 (r n d : Nat) : Prop where
 lt : r < infR
 le : rm r * d ≤ n * 2 ^ 1074
 next : r + 1 = infR ∨ n * 2 ^ 1074 < rm (r + 1) * d
structure IsUp (r n d : Nat) : Prop where
 le : r ≤ infR
 ge : r = infR ∨ n * 2 ^ 1074 ≤ rm r * d
 prev : r = 0 ∨ rm (r - 1) * d < n * 2 ^ 1074
theorem Q02.unique {r s n d : Nat} (_ : 0 < d) (h : Q02 r n d) (k : Q02 s n d) : r = s := by
 have key : ∀ {a b}, Q02 a n d → Q02 b n d → ¬ a < b := by
  intro a b ha hb c
  rcases ha.next with e | e
  · have := hb.lt; omega
  · have h1 : rm (a + 1) ≤ rm b := N08.2 (by omega)
    have h2 := Nat.mul_le_mul_right d h1
    have := hb.le; omega
 have := key h k
 have := key k h
 omega
theorem IsUp.unique {r s n d : Nat} (_ : 0 < d) (h : IsUp r n d) (k : IsUp s n d) : r = s := by
 have key : ∀ {a b}, IsUp a n d → IsUp b n d → ¬ a < b := by
  intro a b ha hb c
  rcases ha.ge with e | e
  · have := hb.le; omega
  · rcases hb.prev with e2 | e2
    · omega
    · have h1 : rm a ≤ rm (b - 1) := N08.2 (by omega)
      have h2 := Nat.mul_le_mul_right d h1
      omega
 have := key h k
 have := key k h
 omega
def Mag (n d : Nat) (e : Int) : Prop := ∃ A B : Nat, e = (B : Int) - A ∧ d * 2 ^ B ≤ n * 2 ^ A ∧ n * 2 ^ A < d * 2 ^ (B + 1)
theorem B03 (k : Nat) : 0 < 2 ^ k := Nat.pow_pos (by omega)
theorem I0i {d i j : Nat} (_ : 0 < d) (h : d * 2 ^ i < d * 2 ^ j) : i < j := (Nat.pow_lt_pow_iff_right (by omega)).1 (Nat.lt_of_mul_lt_mul_left h)
theorem l0h {n d x y A B : Nat} (h1 : 2 ^ (x - 1) ≤ n) (h2 : n < 2 ^ x) (h3 : 2 ^ (y - 1) ≤ d) (h4 : d < 2 ^ y) (hx : 1 ≤ x) (hy : 1 ≤ y) (hA : x + A = y + B) :
 (n * 2 ^ A < d * 2 ^ B → Mag n d ((B : Int) - A - 1)) ∧ (d * 2 ^ B ≤ n * 2 ^ A → Mag n d ((B : Int) - A)) := by
 constructor
 · intro h
   refine ⟨A + 1, B, by omega, ?_, ?_⟩
   · have a1 : d * 2 ^ B ≤ 2 ^ y * 2 ^ B := Nat.mul_le_mul_right _ (by omega)
     have a2 : 2 ^ (x - 1) * 2 ^ (A + 1) ≤ n * 2 ^ (A + 1) := Nat.mul_le_mul_right _ h1
     rw [← Nat.pow_add] at a1 a2
     have e : x - 1 + (A + 1) = y + B := by omega
     rw [e] at a2; omega
   · rw [Nat.pow_succ, Nat.pow_succ, ← Nat.mul_assoc, ← Nat.mul_assoc]; omega
 · intro h
   refine ⟨A, B, rfl, h, ?_⟩
   have a1 : n * 2 ^ A < 2 ^ x * 2 ^ A := Nat.mul_lt_mul_of_pos_right h2 (B03 A)
   have a2 : 2 ^ (y - 1) * 2 ^ (B + 1) ≤ d * 2 ^ (B + 1) := Nat.mul_le_mul_right _ h3
   rw [← Nat.pow_add] at a1 a2
   have e : y - 1 + (B + 1) = x + A := by omega
   rw [e] at a2; omega
theorem A0t (x y d : Nat) : x * y * d = d * x * y := by ac_rfl
theorem B0t {R d x y n : Nat} (h : R = x * y) (a : d * x ≤ n) : R * d ≤ n * y := by
 rw [h, A0t]; exact Nat.mul_le_mul_right y a
theorem c0q {a b c : Nat} (h : a = b + c) : 2 ^ a = 2 ^ b * 2 ^ c := by rw [h, Nat.pow_add]
theorem Mag.over {n d : Nat} {e : Int} (h : Mag n d e) (he : 1024 ≤ e) : rm infR * d ≤ n * 2 ^ 1074 := by
 obtain ⟨A, B, rfl, h1, _⟩ := h
 obtain ⟨k, rfl⟩ : ∃ k, B = A + 1024 + k := ⟨B - (A + 1024), by omega⟩
 have a : d * 2 ^ 1024 ≤ n := by
  refine Nat.le_of_mul_le_mul_right ?_ (B03 A)
  refine Nat.le_trans ?_ h1
  rw [Nat.mul_assoc, ← Nat.pow_add 2 1024 A]
  exact Nat.mul_le_mul_left _ (Nat.pow_le_pow_right (by omega) (by omega))
 obtain ⟨g, hg⟩ : ∃ g, g = 2046 := ⟨_, rfl⟩
 have hp : 2 ^ (52 + g) = 2 ^ 1024 * 2 ^ 1074 := c0q (a := 52 + g) (b := 1024) (c := 1074) (by omega)
 exact B0t ((G0e hg).trans hp) a
theorem n0c {n d : Nat} {e last : Int} (hd : 0 < d) (h : Mag n d e) (he : e ≤ 1023) (hl : last = max (e - 52) (-1074)) {a b q t : Nat} (ha : (a : Int) = max (-last) 0) (hb : (b : Int) = max last 0) (hq : q = n * 2 ^ a / (d * 2 ^ b)) (ht : (t : Int) = last + 1074) :
 q < 2 ^ 53 ∧ (t = 0 ∨ 2 ^ 52 ≤ q) ∧ t ≤ 2045 ∧ rm (t * 2 ^ 52 + q) = q * 2 ^ t ∧ Q02 (t * 2 ^ 52 + q) n d ∧
  (n * 2 ^ a % (d * 2 ^ b) = 0 → IsUp (t * 2 ^ 52 + q) n d) ∧ (n * 2 ^ a % (d * 2 ^ b) ≠ 0 → IsUp (t * 2 ^ 52 + q + 1) n d) ∧ rm (t * 2 ^ 52 + q + 1) = (q + 1) * 2 ^ t := by
 have hub : 0 < d * 2 ^ b := Nat.mul_pos hd (B03 b)
 have f1 : q * (d * 2 ^ b) ≤ n * 2 ^ a := by rw [hq]; exact Nat.div_mul_le_self _ _
 have f2 : n * 2 ^ a < (q + 1) * (d * 2 ^ b) := by
  have := Nat.lt_mul_div_succ (n * 2 ^ a) hub
  rw [hq, Nat.mul_comm (n * 2 ^ a / (d * 2 ^ b) + 1)]; exact this
 have f3 : n * 2 ^ a = q * (d * 2 ^ b) + n * 2 ^ a % (d * 2 ^ b) := by
  rw [hq, Nat.mul_comm (n * 2 ^ a / (d * 2 ^ b))]; exact (Nat.div_add_mod _ _).symm
 obtain ⟨A, B, rfl, m1, m2⟩ := h
 have hq53 : q < 2 ^ 53 := by
  rcases Nat.lt_or_ge q (2 ^ 53) with c | c
  · exact c
  · exfalso
    have g1 : 2 ^ 53 * (d * 2 ^ b) ≤ n * 2 ^ a := Nat.le_trans (Nat.mul_le_mul_right _ c) f1
    have g2 := Nat.mul_le_mul_right (2 ^ A) g1
    have g3 := Nat.mul_lt_mul_of_pos_right m2 (B03 a)
    have e1 : 2 ^ 53 * (d * 2 ^ b) * 2 ^ A = d * 2 ^ (53 + b + A) := by rw [Nat.pow_add, Nat.pow_add]; ac_rfl
    have e2 : n * 2 ^ a * 2 ^ A = n * 2 ^ A * 2 ^ a := by ac_rfl
    have e3 : d * 2 ^ (B + 1) * 2 ^ a = d * 2 ^ (B + 1 + a) := by rw [Nat.mul_assoc, ← Nat.pow_add]
    rw [e1, e2] at g2
    rw [e3] at g3
    have := I0i hd (Nat.lt_of_le_of_lt g2 g3)
    omega
 have hq52 : t = 0 ∨ 2 ^ 52 ≤ q := by
  by_cases c : t = 0
  · exact .inl c
  · refine .inr ?_
    rw [hq, Nat.le_div_iff_mul_le hub]
    refine Nat.le_of_mul_le_mul_right ?_ (B03 A)
    have g := Nat.mul_le_mul_right (2 ^ a) m1
    have e1 : 2 ^ 52 * (d * 2 ^ b) * 2 ^ A = d * 2 ^ (52 + b + A) := by rw [Nat.pow_add, Nat.pow_add]; ac_rfl
    have e2 : n * 2 ^ a * 2 ^ A = n * 2 ^ A * 2 ^ a := by ac_rfl
    have e3 : d * 2 ^ B * 2 ^ a = d * 2 ^ (B + a) := by rw [Nat.mul_assoc, ← Nat.pow_add]
    have e4 : 52 + b + A = B + a := by omega
    rw [e1, e2, e4, ← e3]; exact g
 have ht5 : t ≤ 2045 := by omega
 have hr0 : rm (t * 2 ^ 52 + q) = q * 2 ^ t := f07 ⟨hq52, by omega⟩
 have hr1 : rm (t * 2 ^ 52 + q + 1) = (q + 1) * 2 ^ t := by rw [Nat.add_assoc]; exact f07 ⟨by omega, by omega⟩
 -- the same at the common e04
 obtain ⟨c, hc⟩ : ∃ c, 1074 = a + c := ⟨1074 - a, by omega⟩
 have htb : t = b + c := by omega
 have s0 : ∀ k : Nat, k * 2 ^ t * d = k * (d * 2 ^ b) * 2 ^ c := by intro k; rw [htb, Nat.pow_add]; ac_rfl
 have s1 : n * 2 ^ 1074 = n * 2 ^ a * 2 ^ c := by rw [hc, Nat.pow_add]; ac_rfl
 have g1 : q * 2 ^ t * d ≤ n * 2 ^ 1074 := by rw [s0, s1]; exact Nat.mul_le_mul_right _ f1
 have g2 : n * 2 ^ 1074 < (q + 1) * 2 ^ t * d := by rw [s0, s1]; exact Nat.mul_lt_mul_of_pos_right f2 (B03 c)
 have hinf : t * 2 ^ 52 + q < infR := by unfold infR; omega
 refine ⟨hq53, hq52, ht5, hr0, ⟨hinf, by rw [hr0]; exact g1, .inr (by rw [hr1]; exact g2)⟩, fun h0 => ?_, fun h0 => ?_, hr1⟩
 · have g3 : q * 2 ^ t * d = n * 2 ^ 1074 := by rw [s0, s1, f3, h0, Nat.add_zero]
   refine ⟨by omega, .inr (by rw [hr0, g3]; exact Nat.le_refl _), ?_⟩
   by_cases z : t * 2 ^ 52 + q = 0
   · exact .inl z
   · refine .inr ?_
     rw [← g3, ← hr0]
     exact Nat.mul_lt_mul_of_pos_right (D0e (by omega)) hd
 · refine ⟨by omega, ?_, .inr ?_⟩
   · exact .inr (by rw [hr1]; omega)
   · rw [Nat.add_sub_cancel, hr0, s0, s1]
     exact Nat.mul_lt_mul_of_pos_right (by omega) (B03 c)

def magE (n d : Nat) : Int :=
 if n * 2 ^ (max ((bl d : Int) - bl n) 0).toNat < d * 2 ^ (max ((bl n : Int) - bl d) 0).toNat then (bl n : Int) - bl d - 1 else (bl n : Int) - bl d
theorem a0l {n d : Nat} (hn : n ≠ 0) (hd : d ≠ 0) : Mag n d (magE n d) := by
 obtain ⟨A, hA⟩ : ∃ A, A = (max ((bl d : Int) - bl n) 0).toNat := ⟨_, rfl⟩
 obtain ⟨B, hB⟩ : ∃ B, B = (max ((bl n : Int) - bl d) 0).toNat := ⟨_, rfl⟩
 have h := l0h (n := n) (d := d) (x := bl n) (y := bl d) (A := A) (B := B) (W09 hn) (I0a n) (W09 hd) (I0a d) (N0c hn) (N0c hd) (by omega)
 unfold magE
 rw [← hA, ← hB]
 have e : (bl n : Int) - bl d = (B : Int) - A := by omega
 rw [e]
 split
 · exact h.1 (by assumption)
 · exact h.2 (by omega)
def e04 (n d : Nat) : Int := max (magE n d - 52) (-1074)
def top (n d : Nat) : Nat := n * 2 ^ (max (-e04 n d) 0).toNat
def bot (n d : Nat) : Nat := d * 2 ^ (max (e04 n d) 0).toNat
def M05 (n d : Nat) : Nat :=
 if n = 0 then 0 else if magE n d > 1023 then infR - 1 else (e04 n d + 1074).toNat * 2 ^ 52 + top n d / bot n d
def upK (n d : Nat) : Nat :=
 if n = 0 then 0 else if magE n d > 1023 then infR
 else if top n d % bot n d = 0 then (e04 n d + 1074).toNat * 2 ^ 52 + top n d / bot n d else (e04 n d + 1074).toNat * 2 ^ 52 + top n d / bot n d + 1
theorem S0r {n K x : Nat} (h : n = 0) (hx : 0 < x) : n * K < x := by rw [h, Nat.zero_mul]; exact hx
theorem T0r {n K x : Nat} (h : n = 0) : n * K ≤ x := by rw [h, Nat.zero_mul]; exact Nat.zero_le _
theorem d0q {d x : Nat} : rm 0 * d ≤ x := by rw [O08, Nat.zero_mul]; exact Nat.zero_le _
theorem Q02.zeroN {n d : Nat} (h : n = 0) (hd : 0 < d) : Q02 0 n d := ⟨by decide, d0q, .inr (S0r h (Nat.mul_pos (J0r (by omega)) hd))⟩
theorem IsUp.zeroN {n d : Nat} (h : n = 0) : IsUp 0 n d := ⟨by decide, .inr (T0r h), .inl rfl⟩
theorem Q02.zero {d : Nat} (hd : 0 < d) : Q02 0 0 d := Q02.zeroN rfl hd
theorem IsUp.zero (d : Nat) : IsUp 0 0 d := IsUp.zeroN rfl
theorem Q02.most {n d : Nat} (h : rm infR * d ≤ n * 2 ^ 1074) : Q02 (infR - 1) n d :=
 ⟨by decide, Nat.le_trans (Nat.mul_le_mul_right d (N08.2 (by omega))) h, .inl (by decide)⟩
theorem IsUp.most {n d : Nat} (hd : 0 < d) (h : rm infR * d ≤ n * 2 ^ 1074) : IsUp infR n d :=
 ⟨Nat.le_refl _, .inl rfl, .inr (Nat.lt_of_lt_of_le (Nat.mul_lt_mul_of_pos_right (D0e (by decide)) hd) h)⟩
theorem D02 {n d : Nat} (hd : 0 < d) : Q02 (M05 n d) n d := by
 unfold M05
 by_cases h0 : n = 0
 · rw [if_pos h0, h0]; exact .zero hd
 · rw [if_neg h0]
   have hM := a0l h0 (by omega : d ≠ 0)
   by_cases hc : magE n d > 1023
   · rw [if_pos hc]; exact .most (hM.over (by omega))
   · rw [if_neg hc]
     exact (n0c hd hM (by omega) (last := e04 n d) rfl (a := (max (-e04 n d) 0).toNat) (b := (max (e04 n d) 0).toNat) (t := (e04 n d + 1074).toNat) (by omega) (by omega) rfl (by unfold e04; omega)).2.2.2.2.1
theorem E03 {n d : Nat} (hd : 0 < d) : IsUp (upK n d) n d := by
 unfold upK
 by_cases h0 : n = 0
 · rw [if_pos h0, h0]; exact .zero d
 · rw [if_neg h0]
   have hM := a0l h0 (by omega : d ≠ 0)
   by_cases hc : magE n d > 1023
   · rw [if_pos hc]; exact .most hd (hM.over (by omega))
   · rw [if_neg hc]
     have f := (n0c hd hM (by omega) (last := e04 n d) rfl (a := (max (-e04 n d) 0).toNat) (b := (max (e04 n d) 0).toNat) (t := (e04 n d + 1074).toNat) (by omega) (by omega) rfl (by unfold e04; omega)).2.2.2.2.2
     by_cases z : top n d % bot n d = 0
     · rw [if_pos z]; exact f.1 z
     · rw [if_neg z]; exact f.2.1 z
theorem U0r {n d n' d' a K : Nat} (hd : 0 < d) (h : n * d' = n' * d) : a * d' ≤ n' * K ↔ a * d ≤ n * K ∨ d' = 0 := by
 by_cases z : d' = 0
 · simp [z]
 · have hd' : 0 < d' := by omega
   constructor
   · intro g
     refine .inl (Nat.le_of_mul_le_mul_right ?_ hd')
     have g2 := Nat.mul_le_mul_right d g
     have e1 : a * d * d' = a * d' * d := by ac_rfl
     have e2 : n * K * d' = n' * K * d := by
      have : n * K * d' = n * d' * K := by ac_rfl
      rw [this, h]; ac_rfl
     rw [e1, e2]; exact g2
   · rintro (g | g)
     · refine Nat.le_of_mul_le_mul_right ?_ hd
       have g2 := Nat.mul_le_mul_right d' g
       have e1 : a * d' * d = a * d * d' := by ac_rfl
       have e2 : n' * K * d = n * K * d' := by
        have : n * K * d' = n * d' * K := by ac_rfl
        rw [this, h]; ac_rfl
       rw [e1, e2]; exact g2
     · exact absurd g z
theorem W0r {n d n' d' a K : Nat} (hd : 0 < d) (hd' : 0 < d') (h : n * d' = n' * d) : n' * K ≤ a * d' ↔ n * K ≤ a * d := by
 have e2 : n * K * d' = n' * K * d := by
  have : n * K * d' = n * d' * K := by ac_rfl
  rw [this, h]; ac_rfl
 constructor
 · intro g
   refine Nat.le_of_mul_le_mul_right ?_ hd'
   rw [e2]
   have g2 := Nat.mul_le_mul_right d g
   have e1 : a * d * d' = a * d' * d := by ac_rfl
   rw [e1]; exact g2
 · intro g
   refine Nat.le_of_mul_le_mul_right ?_ hd
   rw [← e2]
   have g2 := Nat.mul_le_mul_right d' g
   have e1 : a * d' * d = a * d * d' := by ac_rfl
   rw [e1]; exact g2
theorem Q02.congr {r n d n' d' : Nat} (hd : 0 < d) (hd' : 0 < d') (h : n * d' = n' * d) (k : Q02 r n d) : Q02 r n' d' := by
 refine ⟨k.lt, (@U0r n d n' d' (rm r) _ hd h).2 (.inl k.le), ?_⟩
 rcases k.next with e | e
 · exact .inl e
 · refine .inr (Nat.lt_of_not_le fun g => ?_)
   rcases (@U0r n d n' d' (rm (r + 1)) _ hd h).1 g with g | g
   · omega
   · omega
theorem IsUp.congr {r n d n' d' : Nat} (hd : 0 < d) (hd' : 0 < d') (h : n * d' = n' * d) (k : IsUp r n d) : IsUp r n' d' := by
 refine ⟨k.le, ?_, ?_⟩
 · rcases k.ge with e | e
   · exact .inl e
   · exact .inr ((@W0r n d n' d' (rm r) _ hd hd' h).2 e)
 · rcases k.prev with e | e
   · exact .inl e
   · refine .inr (Nat.lt_of_not_le fun g => ?_)
     have := (@W0r n d n' d' (rm (r - 1)) _ hd hd' h).1 g
     omega
def l00 (q : Rat) : Int := if 0 ≤ q.num then (M05 q.num.natAbs q.den : Int) else -(upK q.num.natAbs q.den : Int)
def H00 (q : Rat) : Int := if 0 ≤ q.num then (upK q.num.natAbs q.den : Int) else -(M05 q.num.natAbs q.den : Int)

structure Eb where
 inf : Int
 x : Rat
deriving DecidableEq
namespace Eb
def fin (x : Rat) : Eb := ⟨0, x⟩
def ok (a : Eb) : Prop := a.inf = 0 ∨ (a.x = 0 ∧ (a.inf = 1 ∨ a.inf = -1))
def num (a : Eb) : Cq := ⟨a.x, 0⟩
def cmp (a b : Eb) : Int := if a.inf ≠ 0 ∨ b.inf ≠ 0 then cmpZ a.inf b.inf else cmpR a.x b.x
def sign (a : Eb) : Int := cmp a (fin 0)
def neg (a : Eb) : Eb := ⟨-a.inf, -a.x⟩
def add (a b : Eb) : Eb := if a.inf ≠ 0 then a else if b.inf ≠ 0 then b else ⟨0, a.x + b.x⟩
def mul (a b : Eb) : Eb := if a.inf = 0 ∧ b.inf = 0 then ⟨0, a.x * b.x⟩ else ⟨a.sign * b.sign, 0⟩
theorem fin_ok (x : Rat) : (fin x).ok := .inl rfl
theorem neg_ok {a : Eb} (h : a.ok) : a.neg.ok := by
 rcases h with h | ⟨h, h2⟩
 · left; show -a.inf = 0; omega
 · right; refine ⟨?_, ?_⟩
   · show -a.x = 0; rw [h]; rfl
   · show -a.inf = 1 ∨ -a.inf = -1; omega
theorem e0q (a b : Int) : cmpZ a b = -1 ∨ cmpZ a b = 0 ∨ cmpZ a b = 1 := by unfold cmpZ; split <;> (try split) <;> simp
theorem f0q (a b : Rat) : cmpR a b = -1 ∨ cmpR a b = 0 ∨ cmpR a b = 1 := by unfold cmpR; split <;> (try split) <;> simp
theorem cmp_range (a b : Eb) : cmp a b = -1 ∨ cmp a b = 0 ∨ cmp a b = 1 := by
 unfold cmp; split
 · exact e0q _ _
 · exact f0q _ _
theorem mul_ok (a b : Eb) : (a.mul b).ok := by
 unfold mul; split
 · exact .inl rfl
 · have h1 : a.sign = -1 ∨ a.sign = 0 ∨ a.sign = 1 := cmp_range _ _
   have h2 : b.sign = -1 ∨ b.sign = 0 ∨ b.sign = 1 := cmp_range _ _
   rcases h1 with h1 | h1 | h1 <;> rcases h2 with h2 | h2 | h2 <;> rw [h1, h2] <;> unfold ok <;> simp
def pick (way : Int) : List Eb → Eb
 | [] => ⟨0, 0⟩
 | e :: es => es.foldl (fun o x => if cmp x o = way then x else o) e
theorem pick_mem (way : Int) : ∀ (es : List Eb) (e : Eb), es.foldl (fun o x => if cmp x o = way then x else o) e = e ∨ es.foldl (fun o x => if cmp x o = way then x else o) e ∈ es
 | [], _ => .inl rfl
 | x :: es, e => by
   simp only [List.foldl_cons]
   rcases pick_mem way es (if cmp x e = way then x else e) with h | h
   · rw [h]; split
     · exact .inr (by simp)
     · exact .inl rfl
   · exact .inr (by simp [h])
end Eb
structure Es where
 lo : Eb
 hi : Eb
namespace Es
def neg (a : Es) : Es := ⟨a.hi.neg, a.lo.neg⟩
def add (a b : Es) : Es := ⟨a.lo.add b.lo, a.hi.add b.hi⟩
def prods (a b : Es) : List Eb := [a.lo.mul b.lo, a.lo.mul b.hi, a.hi.mul b.lo, a.hi.mul b.hi]
def mul (a b : Es) : Es := ⟨Eb.pick (-1) (prods a b), Eb.pick 1 (prods a b)⟩
def zero (a : Es) : Bool := decide (a.lo.sign ≤ 0) && decide (0 ≤ a.hi.sign)
end Es
structure Sk where
 lo : Int
 hi : Int
deriving DecidableEq
def fkq (k : Int) : Rat := (kz k : Rat) / ((2 ^ 1074 : Nat) : Rat)
def endE (k : Int) : Eb := if k = (infR : Int) then ⟨1, 0⟩ else if k = -(infR : Int) then ⟨-1, 0⟩ else ⟨0, fkq k⟩
theorem g07 (k : Int) : (endE k).ok := by
 unfold endE; split
 · exact .inr ⟨rfl, .inl rfl⟩
 · split
   · exact .inr ⟨rfl, .inr rfl⟩
   · exact .inl rfl
def Sk.set (s : Sk) : Es := ⟨endE s.lo, endE s.hi⟩
def Es.span (a : Es) : Sk := ⟨if a.lo.inf = 0 then l00 a.lo.x else -(infR : Int), if a.hi.inf = 0 then H00 a.hi.x else (infR : Int)⟩
def inK (k : Int) : Prop := -(infR : Int) ≤ k ∧ k ≤ (infR : Int)
theorem p04 (q : Rat) : inK (l00 q) := by
 have hd : 0 < q.den := by have := q.den_nz; omega
 have h1 := (D02 (n := q.num.natAbs) hd).lt
 have h2 := (E03 (n := q.num.natAbs) hd).le
 unfold l00 inK; split <;> omega
theorem E06 (q : Rat) : inK (H00 q) := by
 have hd : 0 < q.den := by have := q.den_nz; omega
 have h1 := (D02 (n := q.num.natAbs) hd).lt
 have h2 := (E03 (n := q.num.natAbs) hd).le
 unfold H00 inK; split <;> omega
structure Sk.ok (s : Sk) : Prop where
 lo : inK s.lo
 hi : inK s.hi
theorem m0h (a : Es) : a.span.ok := by
 refine ⟨?_, ?_⟩
 · unfold Es.span; dsimp only; split
   · exact p04 _
   · unfold inK; omega
 · unfold Es.span; dsimp only; split
   · exact E06 _
   · unfold inK; omega

def U64 (n : Int) : Prop := 0 ≤ n ∧ n < 18446744073709551616
theorem U64.nat {n : Int} (h : U64 n) : ∃ k : Nat, n = k ∧ k < 2 ^ 64 := by
 obtain ⟨h1, h2⟩ := h
 exact ⟨n.toNat, by omega, by omega⟩
def y08.u64 (x : y08) : Prop := U64 x.re.lo ∧ U64 x.re.hi ∧ U64 x.im.lo ∧ U64 x.im.hi
deriving instance DecidableEq for SpV
deriving instance DecidableEq for BoxV
def Sk.v (k : Sk) : SpV := ⟨k00 k.lo, k00 k.hi⟩
def Sk.neg (s : Sk) : Sk := ⟨-s.hi, -s.lo⟩
def Sk.hull (s t : Sk) : Sk := ⟨min s.lo t.lo, max s.hi t.hi⟩
def Sk.meet (s t : Sk) : Sk := ⟨max s.lo t.lo, min s.hi t.hi⟩
def Sk.nonempty (s : Sk) : Bool := decide (s.lo ≤ s.hi)
def Sk.has (s : Sk) (q : Rat) : Bool := decide ((endE s.lo).cmp ⟨0, q⟩ ≤ 0) && decide ((⟨0, q⟩ : Eb).cmp (endE s.hi) ≤ 0)
theorem Sk.neg_ok {s : Sk} (h : s.ok) : s.neg.ok := by
 have a := h.lo; have b := h.hi
 unfold inK at a b
 exact ⟨by unfold inK Sk.neg; dsimp only; omega, by unfold inK Sk.neg; dsimp only; omega⟩
def mkE (x y : Nat) : Int := if ¬ okW x ∨ ¬ okW y ∨ key x = (infR : Int) ∨ key y = -(infR : Int) then 1 else if key y < key x then 7 else 0
def Sk.nil : Sk := ⟨0, 0⟩
theorem i07 : inK 0 := by unfold inK infR; omega
theorem Sk.nil_ok : Sk.nil.ok := ⟨i07, i07⟩
theorem G0o : Sk.nil.v = SpV.mk 0 0 := rfl
def mkS (x y : Nat) : Sk := if mkE x y = 0 then ⟨key x, key y⟩ else Sk.nil
theorem T0n {x y : Nat} (h : mkE x y = 0) : okW x ∧ okW y ∧ key x ≤ key y := by
 unfold mkE at h
 split at h
 · simp at h
 · rename_i c
   split at h
   · simp at h
   · have c1 : okW x := Classical.byContradiction fun q => c (.inl q)
     have c2 : okW y := Classical.byContradiction fun q => c (.inr (.inl q))
     exact ⟨c1, c2, by omega⟩
theorem w0u {x : Nat} (h : okW x) : inK (key x) := by
 obtain ⟨h1, h2⟩ := h
 unfold inK key infR at *; split <;> omega
def Sk.proper (s : Sk) : Prop := s.lo ≤ s.hi ∧ s.lo ≠ (infR : Int) ∧ s.hi ≠ -(infR : Int)
theorem g0q {x y : Nat} (h : mkE x y = 0) : (mkS x y).proper := by
 have hle := (T0n h).2.2
 unfold mkS; rw [if_pos h]
 unfold mkE at h
 split at h
 · simp at h
 · rename_i c
   exact ⟨hle, fun e => c (.inr (.inr (.inl e))), fun e => c (.inr (.inr (.inr e)))⟩
theorem X0r (x y : Nat) : (mkS x y).ok := by
 unfold mkS; split
 · rename_i h
   obtain ⟨a, b, _⟩ := T0n h
   exact ⟨w0u a, w0u b⟩
 · exact Sk.nil_ok
theorem okK {k : Int} (h : inK k) : okW (k00 k) := z0t h.1 h.2
theorem keyK {k : Int} (h : inK k) : key (k00 k) = k := P0r h.1 h.2
theorem U0n {a b : Int} (ha : inK a) (hb : inK b) : fmax .f64 (k00 a) (k00 b) = k00 (max a b) := by
 unfold fmax
 rw [D06 (okK ha) (okK hb), keyK ha, keyK hb]
 rcases Int.lt_trichotomy a b with h | h | h
 · rw [show compare a b = .lt from Int.compare_eq_lt.2 h]; dsimp only; rw [Int.max_eq_right (by omega)]
 · subst h; rw [show compare a a = .eq from Int.compare_eq_eq.2 rfl]; dsimp only; rw [Int.max_eq_left (by omega)]; split <;> rfl
 · rw [show compare a b = .gt from Int.compare_eq_gt.2 h]; dsimp only; rw [Int.max_eq_left (by omega)]
theorem C0t {a b : Int} (ha : inK a) (hb : inK b) : fmin .f64 (k00 a) (k00 b) = k00 (min a b) := by
 unfold fmin
 rw [D06 (okK ha) (okK hb), keyK ha, keyK hb]
 rcases Int.lt_trichotomy a b with h | h | h
 · rw [show compare a b = .lt from Int.compare_eq_lt.2 h]; dsimp only; rw [Int.min_eq_left (by omega)]
 · subst h; rw [show compare a a = .eq from Int.compare_eq_eq.2 rfl]; dsimp only; rw [Int.min_eq_left (by omega)]; split <;> rfl
 · rw [show compare a b = .gt from Int.compare_eq_gt.2 h]; dsimp only; rw [Int.min_eq_right (by omega)]
theorem o0c {a b : Int} (ha : inK a) (hb : inK b) : (FloatKind.f64.format.order (k00 a) (k00 b)).isSome = true := by
 rw [D06 (okK ha) (okK hb)]; rfl
theorem leK {a b : Int} (ha : inK a) (hb : inK b) : ((FloatKind.f64.format.order (k00 a) (k00 b) == some .lt) || (FloatKind.f64.format.order (k00 a) (k00 b) == some .eq)) = decide (a ≤ b) := by
 rw [l0w (okK ha) (okK hb), keyK ha, keyK hb]
theorem geK {a b : Int} (ha : inK a) (hb : inK b) : ((FloatKind.f64.format.order (k00 a) (k00 b) == some .gt) || (FloatKind.f64.format.order (k00 a) (k00 b) == some .eq)) = decide (b ≤ a) := by
 rw [m0w (okK ha) (okK hb), keyK ha, keyK hb]
theorem ltK {a b : Int} (ha : inK a) (hb : inK b) : (FloatKind.f64.format.order (k00 a) (k00 b) == some .lt) = decide (a < b) := by
 rw [N0r (okK ha) (okK hb), keyK ha, keyK hb]
structure Bk where
 re : Sk
 im : Sk
deriving DecidableEq
structure Bk.ok (b : Bk) : Prop where
 re : b.re.ok
 im : b.im.ok
def Bk.proper (b : Bk) : Prop := b.re.proper ∧ b.im.proper
def Bk.v (b : Bk) : BoxV := ⟨b.re.v, b.im.v⟩
def Bk.nil : Bk := ⟨Sk.nil, Sk.nil⟩
theorem Bk.nil_ok : Bk.nil.ok := ⟨Sk.nil_ok, Sk.nil_ok⟩
def mkBE (a b c d : Nat) : Int := if mkE a c = 1 ∨ mkE b d = 1 then 1 else if mkE a c ≠ 0 ∨ mkE b d ≠ 0 then 7 else 0
def mkB (a b c d : Nat) : Bk := if mkBE a b c d = 0 then ⟨mkS a c, mkS b d⟩ else Bk.nil
theorem u0w (a b c d : Nat) : (mkB a b c d).ok := by
 unfold mkB; split
 · exact ⟨X0r _ _, X0r _ _⟩
 · exact Bk.nil_ok
def Bk.mul (b c : Bk) : Bk :=
 ⟨((b.re.set.mul c.re.set).add (b.im.set.mul c.im.set).neg).span, ((b.re.set.mul c.im.set).add (b.im.set.mul c.re.set)).span⟩
def Bk.neg (b : Bk) : Bk := ⟨b.re.neg, b.im.neg⟩
def Bk.conj (b : Bk) : Bk := ⟨b.re, b.im.neg⟩
def Bk.hull (b c : Bk) : Bk := ⟨b.re.hull c.re, b.im.hull c.im⟩
def Bk.meets (b c : Bk) : Bool := (b.re.meet c.re).nonempty && (b.im.meet c.im).nonempty
def Bk.meet (b c : Bk) : Bk := if b.meets c then ⟨b.re.meet c.re, b.im.meet c.im⟩ else Bk.nil
def Bk.has (b : Bk) (z : Cq) : Bool := b.re.has z.re && b.im.has z.im

def t03 (a b : Eb) : Eb := if a.inf ≠ 0 ∨ b.inf ≠ 0 then ⟨0, 0⟩ else ⟨0, a.x / (a.x * a.x + b.x * b.x)⟩
def rowZ (y : Es) (a : Eb) : List Eb := if y.zero = true ∧ a.sign ≠ 0 then [t03 a (Eb.fin 0)] else []
def rowA (y : Es) (a : Eb) : List Eb := [t03 a y.lo, t03 a y.hi] ++ rowZ y a
def colB (x : Es) (b a : Eb) : List Eb := if b.inf = 0 ∧ b.sign ≠ 0 ∧ x.lo.cmp a ≤ 0 ∧ a.cmp x.hi ≤ 0 then [t03 a b] else []
def rowB (x : Es) (b : Eb) : List Eb := colB x b b ++ colB x b b.neg
def at2 (a b : Eb) : Nat → Eb
 | 0 => a
 | _ => b
def preA (x y : Es) : Nat → List Eb
 | 0 => []
 | 1 => rowA y x.lo
 | _ => rowA y x.lo ++ rowA y x.hi
def preB (x y : Es) : Nat → List Eb
 | 0 => preA x y 2
 | 1 => preA x y 2 ++ rowB x y.lo
 | _ => preA x y 2 ++ (rowB x y.lo ++ rowB x y.hi)
def P0c (x y : Es) : List Eb := preB x y 2
def Es.share (x y : Es) : Es := ⟨Eb.pick (-1) (P0c x y), Eb.pick 1 (P0c x y)⟩
theorem Y0r (x y : Es) {i : Nat} (h : i < 2) : preA x y i ++ rowA y (at2 x.lo x.hi i) = preA x y (i + 1) := by
 rcases (by omega : i = 0 ∨ i = 1) with rfl | rfl
 · simp [preA, at2]
 · simp [preA, at2]
theorem Z0r (x y : Es) {i : Nat} (h : i < 2) : preB x y i ++ rowB x (at2 y.lo y.hi i) = preB x y (i + 1) := by
 rcases (by omega : i = 0 ∨ i = 1) with rfl | rfl
 · simp [preB, at2]
 · simp [preB, at2]
def inA (y : Es) (a : Eb) : Nat → List Eb
 | 0 => []
 | 1 => [t03 a y.lo]
 | _ => [t03 a y.lo, t03 a y.hi]
theorem D0t (y : Es) (a : Eb) {j : Nat} (h : j < 2) : inA y a j ++ [t03 a (at2 y.lo y.hi j)] = inA y a (j + 1) := by
 rcases (by omega : j = 0 ∨ j = 1) with rfl | rfl <;> rfl
def inB (x : Es) (b : Eb) : Nat → List Eb
 | 0 => []
 | 1 => colB x b b
 | _ => colB x b b ++ colB x b b.neg
theorem E0t (x : Es) (b : Eb) {j : Nat} (h : j < 2) : inB x b j ++ colB x b (at2 b b.neg j) = inB x b (j + 1) := by
 rcases (by omega : j = 0 ∨ j = 1) with rfl | rfl
 · simp [inB, at2]
 · simp [inB, at2]
theorem F0t (y : Es) (a : Eb) : (rowZ y a).length ≤ 1 := by unfold rowZ; split <;> simp
theorem W0n (y : Es) (a : Eb) : (rowA y a).length ≤ 3 := by
 have := F0t y a
 unfold rowA; simp only [List.length_append, List.length_cons, List.length_nil]; omega
theorem F0d (x : Es) (b a : Eb) : (colB x b a).length ≤ 1 := by unfold colB; split <;> simp
theorem X0n (x : Es) (b : Eb) : (rowB x b).length ≤ 2 := by
 have h1 := F0d x b b; have h2 := F0d x b b.neg
 unfold rowB; simp only [List.length_append]; omega
theorem Y0n (x y : Es) (i : Nat) : (preA x y i).length ≤ 6 := by
 have h1 := W0n y x.lo; have h2 := W0n y x.hi
 match i with
 | 0 => simp [preA]
 | 1 => simp only [preA]; omega
 | _ + 2 => simp only [preA, List.length_append]; omega
theorem Z0n (x y : Es) (i : Nat) : (preB x y i).length ≤ 10 := by
 have h1 := X0n x y.lo; have h2 := X0n x y.hi; have h3 := Y0n x y 2
 match i with
 | 0 => simp only [preB]; omega
 | 1 => simp only [preB, List.length_append]; omega
 | _ + 2 => simp only [preB, List.length_append]; omega
theorem k0v (y : Es) (a : Eb) (j : Nat) : (inA y a j).length ≤ 2 := by
 match j with
 | 0 => simp [inA]
 | 1 => simp [inA]
 | _ + 2 => simp [inA]
theorem l0v (x : Es) (b : Eb) (j : Nat) : (inB x b j).length ≤ 2 := by
 have h1 := F0d x b b; have h2 := F0d x b b.neg
 match j with
 | 0 => simp [inB]
 | 1 => simp only [inB]; omega
 | _ + 2 => simp only [inB, List.length_append]; omega
theorem D0b (x y : Es) : P0c x y ≠ [] := by
 simp [P0c, preB, preA, rowA]

def Bk.clear (b : Bk) : Bool := !b.has Cq.zero
def Bk.invB (b : Bk) : Bk := ⟨(b.re.set.share b.im.set).span, (b.im.set.share b.re.set).neg.span⟩
def Bk.inv (b : Bk) : Bk := if b.clear then b.invB else Bk.nil
def Bk.invE (b : Bk) : Int := if b.clear then 0 else 3
def awB : Bk := ⟨⟨4607182418800017408, 4611686018427387904⟩, ⟨0, 4607182418800017408⟩⟩
def awP : Bk := ⟨⟨0, 4616189618054758400⟩, ⟨0, 4616189618054758400⟩⟩
theorem a0n : mkB 4607182418800017408 0 4611686018427387904 4607182418800017408 = awB ∧ mkBE 4607182418800017408 0 4611686018427387904 4607182418800017408 = 0 := by decide +kernel
theorem x0u : awB.mul awB = awP := by decide +kernel
theorem J0i : awB.clear = true ∧ awP.clear = false := by decide +kernel
theorem y0u : awB.invB.im.lo = -4602678819172646912 ∧ awB.invB.re.hi = 4607182418800017408 := by decide +kernel

namespace Eb
def LT (a b : Eb) : Prop := a.inf < b.inf ∨ (a.inf = 0 ∧ b.inf = 0 ∧ a.x < b.x)
theorem cmp_neg1 {a b : Eb} : cmp a b = -1 ↔ LT a b := by
 unfold cmp LT cmpZ cmpR
 by_cases h : a.inf ≠ 0 ∨ b.inf ≠ 0
 · rw [if_pos h]
   constructor
   · intro e
     left
     split at e
     · assumption
     · split at e <;> simp at e
   · rintro (e | ⟨e1, e2, _⟩)
     · rw [if_pos e]
     · exfalso; omega
 · rw [if_neg h]
   have h1 : a.inf = 0 := by omega
   have h2 : b.inf = 0 := by omega
   constructor
   · intro e
     refine .inr ⟨h1, h2, ?_⟩
     split at e
     · assumption
     · split at e <;> simp at e
   · rintro (e | ⟨_, _, e⟩)
     · exfalso; omega
     · rw [if_pos e]
theorem cmp_1 {a b : Eb} : cmp a b = 1 ↔ LT b a := by
 unfold cmp LT cmpZ cmpR
 by_cases h : a.inf ≠ 0 ∨ b.inf ≠ 0
 · rw [if_pos h]
   constructor
   · intro e
     left
     split at e
     · simp at e
     · split at e
       · simp at e
       · omega
   · rintro (e | ⟨e1, e2, _⟩)
     · rw [if_neg (by omega), if_neg (by omega)]
     · exfalso; omega
 · rw [if_neg h]
   have h1 : a.inf = 0 := by omega
   have h2 : b.inf = 0 := by omega
   constructor
   · intro e
     refine .inr ⟨h2, h1, ?_⟩
     split at e
     · simp at e
     · split at e
       · simp at e
       · grind
   · rintro (e | ⟨_, _, e⟩)
     · exfalso; omega
     · rw [if_neg (by grind), if_neg (by grind)]
theorem LT.trans {a b c : Eb} (h : LT a b) (k : LT b c) : LT a c := by
 unfold LT at *
 rcases h with h | ⟨h1, h2, h3⟩ <;> rcases k with k | ⟨k1, k2, k3⟩
 · left; omega
 · left; omega
 · left; omega
 · right; exact ⟨h1, k2, by grind⟩
theorem LT.weak {a b c : Eb} (h : LT a c) : LT a b ∨ LT b c := by
 unfold LT at *
 rcases h with h | ⟨h1, h2, h3⟩
 · by_cases q : a.inf < b.inf
   · exact .inl (.inl q)
   · exact .inr (.inl (by omega))
 · rcases Int.lt_trichotomy b.inf 0 with q | q | q
   · exact .inr (.inl (by omega))
   · by_cases p : a.x < b.x
     · exact .inl (.inr ⟨h1, q, p⟩)
     · exact .inr (.inr ⟨q, h2, by grind⟩)
   · exact .inl (.inl (by omega))
theorem LT.irrefl {a : Eb} : ¬ LT a a := by
 unfold LT; rintro (h | ⟨_, _, h⟩)
 · omega
 · grind
theorem LT.tri {a b : Eb} (ha : a.ok) (hb : b.ok) (h : ¬ LT a b) (k : ¬ LT b a) : a = b := by
 unfold LT at h k
 have h1 : a.inf = b.inf := by omega
 unfold ok at ha hb
 have h2 : a.x = b.x := by
  by_cases z : a.inf = 0
  · have z2 : b.inf = 0 := by omega
    have p : ¬ a.x < b.x := fun q => h (.inr ⟨z, z2, q⟩)
    have p2 : ¬ b.x < a.x := fun q => k (.inr ⟨z2, z, q⟩)
    grind
  · rcases ha with ha | ha
    · exact absurd ha z
    · rcases hb with hb | hb
      · exact absurd hb (by omega)
      · rw [ha.1, hb.1]
 cases a; cases b; simp at h1 h2; rw [h1, h2]
def W (way : Int) (a b : Eb) : Prop := if way = 1 then LT b a else LT a b
theorem w0w {way : Int} (hw : way = 1 ∨ way = -1) {a b : Eb} : cmp a b = way ↔ W way a b := by
 rcases hw with rfl | rfl
 · unfold W; rw [if_pos rfl]; exact cmp_1
 · unfold W; rw [if_neg (by decide)]; exact cmp_neg1
theorem W.trans {way : Int} {a b c : Eb} (h : W way a b) (k : W way b c) : W way a c := by
 unfold W at *
 split at h
 · rename_i e; rw [if_pos e] at k ⊢; exact k.trans h
 · rename_i e; rw [if_neg e] at k ⊢; exact h.trans k
theorem W.weak {way : Int} {a b c : Eb} (h : W way a c) : W way a b ∨ W way b c := by
 unfold W at *
 split at h
 · rename_i e; rw [if_pos e, if_pos e]; exact (LT.weak (b := b) h).symm
 · rename_i e; rw [if_neg e, if_neg e]; exact LT.weak h
theorem W.irrefl {way : Int} {a : Eb} : ¬ W way a a := by unfold W; split <;> exact LT.irrefl
theorem W.tri {way : Int} {a b : Eb} (ha : a.ok) (hb : b.ok) (h : ¬ W way a b) (k : ¬ W way b a) : a = b := by
 unfold W at h k
 split at h
 · rename_i e; rw [if_pos e] at k; exact LT.tri ha hb k h
 · rename_i e; rw [if_neg e] at k; exact LT.tri ha hb h k
theorem U0g {way : Int} (hw : way = 1 ∨ way = -1) : ∀ (es : List Eb) (o : Eb), ¬ W way o (es.foldl (fun o x => if cmp x o = way then x else o) o) ∧ ∀ e ∈ es, ¬ W way e (es.foldl (fun o x => if cmp x o = way then x else o) o)
 | [], o => ⟨W.irrefl, by simp⟩
 | x :: es, o => by
   simp only [List.foldl_cons]
   have ih := U0g hw es (if cmp x o = way then x else o)
   by_cases h : cmp x o = way
   · rw [if_pos h] at ih ⊢
     have hx := (w0w hw).1 h
     refine ⟨fun g => ih.1 (hx.trans g), fun e he => ?_⟩
     rcases List.mem_cons.1 he with rfl | he
     · exact ih.1
     · exact ih.2 e he
   · rw [if_neg h] at ih ⊢
     refine ⟨ih.1, fun e he => ?_⟩
     rcases List.mem_cons.1 he with rfl | he
     · intro g
       have hxo : ¬ W way e o := fun q2 => h ((w0w hw).2 q2)
       exact (W.weak (b := o) g).elim hxo ih.1
     · exact ih.2 e he
theorem pick_first {way : Int} (hw : way = 1 ∨ way = -1) {es : List Eb} : ∀ e ∈ es, ¬ W way e (pick way es) := by
 cases es with
 | nil => simp
 | cons o es =>
   intro e he
   have := U0g hw es o
   rcases List.mem_cons.1 he with rfl | he
   · exact this.1
   · exact this.2 e he
theorem pick_in {way : Int} {es : List Eb} (h : es ≠ []) : pick way es ∈ es := by
 cases es with
 | nil => exact absurd rfl h
 | cons o es =>
   rcases pick_mem way es o with g | g
   · show List.foldl _ o es ∈ _; rw [g]; simp
   · show List.foldl _ o es ∈ _; exact List.mem_cons_of_mem _ g
theorem pick_ext {way : Int} (hw : way = 1 ∨ way = -1) {es es' : List Eb} (hn : es ≠ []) (hok : ∀ e ∈ es, e.ok) (h : ∀ e, e ∈ es ↔ e ∈ es') : pick way es = pick way es' := by
 have hn' : es' ≠ [] := by
  intro e0
  have := (h _).1 (pick_in (way := way) hn)
  rw [e0] at this; simp at this
 have m1 := pick_in (way := way) hn
 have m2 := (h _).2 (pick_in (way := way) hn')
 exact W.tri (way := way) (hok _ m1) (hok _ m2) (pick_first hw _ ((h _).1 m1)) (pick_first hw _ m2)
theorem neg_neg (a : Eb) : a.neg.neg = a := by
 cases a; unfold neg; simp
theorem LT_neg {a b : Eb} : LT a.neg b.neg ↔ LT b a := by
 unfold LT neg; dsimp only
 constructor
 · rintro (h | ⟨h1, h2, h3⟩)
   · left; omega
   · right; exact ⟨by omega, by omega, by grind⟩
 · rintro (h | ⟨h1, h2, h3⟩)
   · left; omega
   · right; exact ⟨by omega, by omega, by grind⟩
theorem pick_neg {way : Int} (hw : way = 1 ∨ way = -1) {es : List Eb} (hn : es ≠ []) (hok : ∀ e ∈ es, e.ok) : pick way (es.map neg) = (pick (-way) es).neg := by
 have hw' : -way = 1 ∨ -way = -1 := by omega
 have hn' : es.map neg ≠ [] := by simpa using hn
 have m1 := pick_in (way := way) hn'
 obtain ⟨u, hu, hu'⟩ := List.mem_map.1 m1
 have m2 := pick_in (way := -way) hn
 have f1 := pick_first hw (es := es.map neg) _ (List.mem_map.2 ⟨_, m2, rfl⟩)
 have f2 := pick_first hw' (es := es) _ hu
 rw [← hu'] at f1 ⊢
 congr 1
 have flip : ∀ {a b : Eb}, W way a.neg b.neg ↔ W (-way) a b := by
  intro a b
  rcases hw with rfl | rfl
  · unfold W; rw [if_pos rfl, if_neg (by decide)]; exact LT_neg
  · unfold W; rw [if_neg (by decide), if_pos (by decide)]; exact LT_neg
 rw [flip] at f1
 exact W.tri (way := -way) (hok _ hu) (hok _ m2) f2 f1
theorem neg_add (a b : Eb) : (a.add b).neg = a.neg.add b.neg := by
 have h1 : a.neg.inf = -a.inf := rfl
 have h2 : b.neg.inf = -b.inf := rfl
 by_cases c : a.inf = 0
 · have c' : ¬ a.inf ≠ 0 := fun h => h c
   have c2 : ¬ a.neg.inf ≠ 0 := fun h => h (by rw [h1]; omega)
   by_cases d : b.inf = 0
   · have d' : ¬ b.inf ≠ 0 := fun h => h d
     have d2 : ¬ b.neg.inf ≠ 0 := fun h => h (by rw [h2]; omega)
     unfold add
     rw [if_neg c', if_neg c2, if_neg d', if_neg d2]
     show (⟨-0, -(a.x + b.x)⟩ : Eb) = ⟨0, -a.x + -b.x⟩
     congr 1; grind
   · have d2 : b.neg.inf ≠ 0 := by rw [h2]; omega
     unfold add
     rw [if_neg c', if_neg c2, if_pos d, if_pos d2]
 · have c2 : a.neg.inf ≠ 0 := by rw [h1]; omega
   unfold add
   rw [if_pos c, if_pos c2]
theorem cmp_neg (a b : Eb) : cmp a.neg b.neg = -cmp a b := by
 have r1 := cmp_range a.neg b.neg
 have r2 := cmp_range a b
 have e1 : cmp a.neg b.neg = -1 ↔ cmp a b = 1 := by rw [cmp_neg1, cmp_1, LT_neg]
 have e2 : cmp a.neg b.neg = 1 ↔ cmp a b = -1 := by rw [cmp_1, cmp_neg1, LT_neg]
 omega
theorem G0t (a : Eb) : a.neg.sign = -a.sign := by
 have : fin 0 = (fin 0).neg := by unfold fin neg; simp
 show cmp a.neg (fin 0) = -cmp a (fin 0)
 conv => lhs; rw [this]
 exact cmp_neg a _
theorem mul_neg (a b : Eb) : a.neg.mul b = (a.mul b).neg := by
 unfold mul
 have h1 : a.neg.inf = -a.inf := rfl
 by_cases c : a.inf = 0 ∧ b.inf = 0
 · rw [if_pos c, if_pos ⟨by omega, c.2⟩]
   show (⟨0, -a.x * b.x⟩ : Eb) = ⟨-0, -(a.x * b.x)⟩
   congr 1; grind
 · rw [if_neg c, if_neg (fun g => c ⟨by omega, g.2⟩), G0t]
   show (⟨-a.sign * b.sign, 0⟩ : Eb) = ⟨-(a.sign * b.sign), -0⟩
   congr 1
   · rw [Int.neg_mul]
theorem mul_comm (a b : Eb) : a.mul b = b.mul a := by
 unfold mul
 by_cases c : a.inf = 0 ∧ b.inf = 0
 · rw [if_pos c, if_pos ⟨c.2, c.1⟩]; congr 1; grind
 · rw [if_neg c, if_neg (fun g => c ⟨g.2, g.1⟩)]; congr 1; exact Int.mul_comm _ _
end Eb
theorem Es.neg_neg (a : Es) : a.neg.neg = a := by
 cases a; unfold Es.neg; simp [Eb.neg_neg]
theorem Es.neg_add (a b : Es) : (a.add b).neg = a.neg.add b.neg := by
 unfold Es.neg Es.add; dsimp only; rw [Eb.neg_add, Eb.neg_add]
theorem T03 (a b : Es) : ∀ e ∈ Es.prods a b, e.ok := by
 intro e he
 simp only [Es.prods, List.mem_cons, List.not_mem_nil, or_false] at he
 rcases he with rfl | rfl | rfl | rfl <;> exact Eb.mul_ok _ _
theorem U03 (a b : Es) : Es.prods a b ≠ [] := by simp [Es.prods]
theorem Es.mul_comm (a b : Es) : a.mul b = b.mul a := by
 have h : ∀ e, e ∈ Es.prods a b ↔ e ∈ Es.prods b a := by
  intro e
  simp only [Es.prods, List.mem_cons, List.not_mem_nil, or_false, Eb.mul_comm b.lo, Eb.mul_comm b.hi]
  constructor
  · rintro (h | h | h | h)
    · exact .inl h
    · exact .inr (.inr (.inl h))
    · exact .inr (.inl h)
    · exact .inr (.inr (.inr h))
  · rintro (h | h | h | h)
    · exact .inl h
    · exact .inr (.inr (.inl h))
    · exact .inr (.inl h)
    · exact .inr (.inr (.inr h))
 unfold Es.mul
 rw [Eb.pick_ext (.inr rfl) (U03 a b) (T03 a b) h, Eb.pick_ext (.inl rfl) (U03 a b) (T03 a b) h]
theorem Es.neg_mul (a b : Es) : a.neg.mul b = (a.mul b).neg := by
 have h : ∀ e, e ∈ Es.prods a.neg b ↔ e ∈ (Es.prods a b).map Eb.neg := by
  intro e
  simp only [Es.prods, Es.neg, List.map_cons, List.map_nil, List.mem_cons, List.not_mem_nil, or_false, Eb.mul_neg]
  constructor
  · rintro (h | h | h | h)
    · exact .inr (.inr (.inl h))
    · exact .inr (.inr (.inr h))
    · exact .inl h
    · exact .inr (.inl h)
  · rintro (h | h | h | h)
    · exact .inr (.inr (.inl h))
    · exact .inr (.inr (.inr h))
    · exact .inl h
    · exact .inr (.inl h)
 have p1 := Eb.pick_ext (way := -1) (.inr rfl) (U03 a.neg b) (T03 a.neg b) h
 have p2 := Eb.pick_ext (way := 1) (.inl rfl) (U03 a.neg b) (T03 a.neg b) h
 rw [Eb.pick_neg (.inr rfl) (U03 a b) (T03 a b)] at p1
 rw [Eb.pick_neg (.inl rfl) (U03 a b) (T03 a b)] at p2
 unfold Es.mul; rw [p1, p2]; rfl
theorem Es.mul_neg (a b : Es) : a.mul b.neg = (a.mul b).neg := by rw [Es.mul_comm, Es.neg_mul, Es.mul_comm]
theorem W0g (d : Nat) : M05 0 d = 0 := rfl
theorem a0o (d : Nat) : upK 0 d = 0 := rfl
theorem F07 (q : Rat) : l00 (-q) = -H00 q := by
 unfold l00 H00
 have hn : (-q).num = -q.num := rfl
 have hd : (-q).den = q.den := rfl
 rw [hn, hd]
 rcases Int.lt_trichotomy q.num 0 with h | h | h
 · rw [if_pos (by omega), if_neg (by omega), Int.natAbs_neg, Int.neg_neg]
 · rw [h]; rw [if_pos (by decide), if_pos (by decide)]; show ((M05 0 q.den : Nat) : Int) = -((upK 0 q.den : Nat) : Int); rw [W0g, a0o]; rfl
 · rw [if_neg (by omega), if_pos (by omega), Int.natAbs_neg]
theorem i0q (q : Rat) : H00 (-q) = -l00 q := by
 have := F07 (-q)
 rw [Rat.neg_neg] at this
 omega
theorem P0a (a : Es) : a.neg.span = a.span.neg := by
 unfold Es.span Es.neg Sk.neg Eb.neg
 dsimp only
 rw [F07, i0q]
 congr 1
 · by_cases h : a.hi.inf = 0
   · rw [if_pos (by omega), if_pos h]
   · rw [if_neg (by omega), if_neg h]
 · by_cases h : a.lo.inf = 0
   · rw [if_pos (by omega), if_pos h]
   · rw [if_neg (by omega), if_neg h, Int.neg_neg]
theorem a0s (k : Int) : fkq (-k) = -fkq k := by
 unfold fkq; rw [K0r, Rat.intCast_neg, Rat.div_def, Rat.div_def, Rat.neg_mul]
theorem Z03 (k : Int) : endE (-k) = (endE k).neg := by
 have h0 : (infR : Int) ≠ 0 := by unfold infR; decide
 unfold endE
 by_cases h : k = (infR : Int)
 · rw [if_neg (by omega), if_pos (by omega), if_pos h]; rfl
 · by_cases g : k = -(infR : Int)
   · rw [if_pos (by omega), if_neg h, if_pos g]; rfl
   · rw [if_neg (by omega), if_neg (by omega), if_neg h, if_neg g, a0s]; rfl
theorem Q09 (s : Sk) : s.neg.set = s.set.neg := by
 unfold Sk.set Sk.neg Es.neg; dsimp only; rw [Z03, Z03]
def Bk.add (b c : Bk) : Bk := ⟨(b.re.set.add c.re.set).span, (b.im.set.add c.im.set).span⟩
def Bk.sub (b c : Bk) : Bk := ⟨(b.re.set.add c.re.set.neg).span, (b.im.set.add c.im.set.neg).span⟩
theorem Eb.add_comm {a b : Eb} (h : a.inf ≠ 0 → b.inf ≠ 0 → a = b) : a.add b = b.add a := by
 unfold Eb.add
 by_cases c : a.inf ≠ 0
 · by_cases d : b.inf ≠ 0
   · rw [h c d]
   · rw [if_pos c, if_neg d, if_pos c]
 · by_cases d : b.inf ≠ 0
   · rw [if_neg c, if_pos d, if_pos d]
   · rw [if_neg c, if_neg d, if_neg d, if_neg c]; congr 1; grind
theorem K0i {k : Int} (h : k ≠ (infR : Int)) (h0 : (endE k).inf ≠ 0) : endE k = ⟨-1, 0⟩ := by
 unfold endE at h0 ⊢
 rw [if_neg h] at h0 ⊢
 split at h0
 · rename_i g; rw [if_pos g]
 · exact absurd rfl h0
theorem L0i {k : Int} (h : k ≠ -(infR : Int)) (h0 : (endE k).inf ≠ 0) : endE k = ⟨1, 0⟩ := by
 unfold endE at h0 ⊢
 split at h0
 · rename_i g; rw [if_pos g]
 · exact absurd rfl h0
theorem Sk.add_comm {s t : Sk} (hs : s.proper) (ht : t.proper) : s.set.add t.set = t.set.add s.set := by
 have h1 : (endE s.lo).add (endE t.lo) = (endE t.lo).add (endE s.lo) := Eb.add_comm fun p q => by rw [K0i hs.2.1 p, K0i ht.2.1 q]
 have h2 : (endE s.hi).add (endE t.hi) = (endE t.hi).add (endE s.hi) := Eb.add_comm fun p q => by rw [L0i hs.2.2 p, L0i ht.2.2 q]
 unfold Es.add Sk.set; dsimp only
 rw [h1, h2]
theorem Bk.add_comm {b c : Bk} (hb : b.proper) (hc : c.proper) : b.add c = c.add b := by
 unfold Bk.add; rw [Sk.add_comm hb.1 hc.1, Sk.add_comm hb.2 hc.2]
theorem Bk.sub_eq (b c : Bk) : b.sub c = b.add c.neg := by
 unfold Bk.sub Bk.add Bk.neg; dsimp only; rw [Q09, Q09]
theorem Sk.neg_neg (s : Sk) : s.neg.neg = s := by cases s; unfold Sk.neg; simp
theorem Bk.neg_neg (b : Bk) : b.neg.neg = b := by cases b; unfold Bk.neg; dsimp only; rw [Sk.neg_neg, Sk.neg_neg]
theorem Bk.neg_mul (b c : Bk) : b.neg.mul c = (b.mul c).neg := by
 unfold Bk.mul Bk.neg; dsimp only
 rw [Q09, Q09, Es.neg_mul, Es.neg_mul, Es.neg_mul, Es.neg_mul, ← Es.neg_add, ← Es.neg_add, P0a, P0a]
theorem Bk.neg_ok {b : Bk} (h : b.ok) : b.neg.ok := ⟨Sk.neg_ok h.re, Sk.neg_ok h.im⟩
theorem z0q {b : Bk} (h : b.ok) : b.conj.ok := ⟨h.re, Sk.neg_ok h.im⟩
structure Es.pr (a : Es) : Prop where
 lo : a.lo.inf ≤ 0
 hi : 0 ≤ a.hi.inf
 klo : a.lo.ok
 khi : a.hi.ok
theorem Es.pr.neg {a : Es} (h : a.pr) : a.neg.pr :=
 ⟨by show -a.hi.inf ≤ 0; have := h.hi; omega, by show 0 ≤ -a.lo.inf; have := h.lo; omega, Eb.neg_ok h.khi, Eb.neg_ok h.klo⟩
theorem D04 {a : Eb} (h : a.ok) : a.inf = 0 ∨ a.inf = 1 ∨ a.inf = -1 := by
 rcases h with h | ⟨_, h⟩
 · exact .inl h
 · exact .inr h
theorem S09 {a : Eb} (_ : a.inf ≠ 0) : (a.inf < 0 → a.sign = -1) ∧ (0 < a.inf → a.sign = 1) := by
 refine ⟨fun g => Eb.cmp_neg1.2 (.inl g), fun g => Eb.cmp_1.2 (.inl g)⟩
theorem o07 {a b : Eb} (h : 0 < (a.mul b).inf) : (a.inf ≠ 0 ∨ b.inf ≠ 0) ∧ a.sign * b.sign = 1 := by
 unfold Eb.mul at h
 by_cases c : a.inf = 0 ∧ b.inf = 0
 · rw [if_pos c] at h; exact absurd h (Int.lt_irrefl 0)
 · rw [if_neg c] at h
   have h : 0 < a.sign * b.sign := h
   refine ⟨by omega, ?_⟩
   rcases Eb.cmp_range a (Eb.fin 0) with p | p | p <;> rcases Eb.cmp_range b (Eb.fin 0) with q | q | q <;>
    (have p' : a.sign = _ := p
     have q' : b.sign = _ := q
     rw [p', q'] at h ⊢; revert h; decide)
theorem g0d {a b : Es} (ha : a.pr) (hb : b.pr) (h1 : a.lo.inf ≠ 0) : ¬ (0 < (a.lo.mul b.lo).inf ∧ 0 < (a.lo.mul b.hi).inf ∧ 0 < (a.hi.mul b.hi).inf) := by
 rintro ⟨_, h2, h3⟩
 have s1 : a.lo.sign = -1 := (S09 h1).1 (by have := ha.lo; omega)
 have m2 := o07 h2
 have m3 := o07 h3
 have s2 : b.hi.sign = -1 := by have := m2.2; rw [s1] at this; omega
 have z2 : b.hi.inf = 0 := by
  rcases Int.lt_trichotomy b.hi.inf 0 with q | q | q
  · have := hb.hi; omega
  · exact q
  · have := (S09 (a := b.hi) (by omega)).2 q; omega
 have z3 : a.hi.inf ≠ 0 := by
  rcases m3.1 with q | q
  · exact q
  · exact absurd z2 q
 have s3 : a.hi.sign = 1 := (S09 z3).2 (by have := ha.hi; omega)
 have := m3.2
 rw [s3, s2] at this; exact absurd this (by decide)
theorem A0l {a b : Es} (ha : a.pr) (hb : b.pr) : (a.mul b).lo.inf ≤ 0 := by
 refine Int.not_lt.1 fun hp => ?_
 have f := Eb.pick_first (way := -1) (.inr rfl) (es := Es.prods a b)
 have big : ∀ e ∈ Es.prods a b, 0 < e.inf := by
  intro e he
  refine Int.not_le.1 fun g => f e he ?_
  unfold Eb.W; rw [if_neg (by decide)]
  exact .inl (by
   have : 0 < (Eb.pick (-1) (Es.prods a b)).inf := hp
   omega)
 have m1 : 0 < (a.lo.mul b.lo).inf := big _ (by simp [Es.prods])
 have m2 : 0 < (a.lo.mul b.hi).inf := big _ (by simp [Es.prods])
 have m3 : 0 < (a.hi.mul b.lo).inf := big _ (by simp [Es.prods])
 have m4 : 0 < (a.hi.mul b.hi).inf := big _ (by simp [Es.prods])
 rcases (o07 m1).1 with q | q
 · exact g0d ha hb q ⟨m1, m2, m4⟩
 · exact g0d hb ha q ⟨by rw [Eb.mul_comm]; exact m1, by rw [Eb.mul_comm]; exact m3, by rw [Eb.mul_comm]; exact m4⟩
theorem Es.pr.mul {a b : Es} (ha : a.pr) (hb : b.pr) : (a.mul b).pr := by
 refine ⟨A0l ha hb, ?_, T03 a b _ (Eb.pick_in (U03 a b)), T03 a b _ (Eb.pick_in (U03 a b))⟩
 have := A0l ha.neg hb
 rw [Es.neg_mul] at this
 have : -(a.mul b).hi.inf ≤ 0 := this
 omega
theorem Es.add_comm {a b : Es} (ha : a.pr) (hb : b.pr) : a.add b = b.add a := by
 have h1 : a.lo.add b.lo = b.lo.add a.lo := Eb.add_comm fun p q => by
  have := ha.lo; have := hb.lo
  have r1 := D04 ha.klo; have r2 := D04 hb.klo
  exact Eb.LT.tri ha.klo hb.klo (by rintro (h | ⟨h, _⟩) <;> omega) (by rintro (h | ⟨h, _⟩) <;> omega)
 have h2 : a.hi.add b.hi = b.hi.add a.hi := Eb.add_comm fun p q => by
  have := ha.hi; have := hb.hi
  have r1 := D04 ha.khi; have r2 := D04 hb.khi
  exact Eb.LT.tri ha.khi hb.khi (by rintro (h | ⟨h, _⟩) <;> omega) (by rintro (h | ⟨h, _⟩) <;> omega)
 unfold Es.add; rw [h1, h2]
theorem Sk.proper.pr {s : Sk} (h : s.proper) : s.set.pr := by
 refine ⟨?_, ?_, g07 _, g07 _⟩
 · show (endE s.lo).inf ≤ 0
   by_cases c : (endE s.lo).inf = 0
   · omega
   · rw [K0i h.2.1 c]; decide
 · show 0 ≤ (endE s.hi).inf
   by_cases c : (endE s.hi).inf = 0
   · omega
   · rw [L0i h.2.2 c]; decide
theorem Bk.mul_comm {b c : Bk} (hb : b.proper) (hc : c.proper) : b.mul c = c.mul b := by
 unfold Bk.mul
 rw [Es.mul_comm b.re.set c.re.set, Es.mul_comm b.im.set c.im.set, Es.mul_comm b.re.set c.im.set, Es.mul_comm b.im.set c.re.set,
  Es.add_comm (hc.2.pr.mul hb.1.pr) (hc.1.pr.mul hb.2.pr)]

theorem q0c {x K : Nat} (h : 0 < K) : x * K ≠ 0 ↔ x ≠ 0 := by
 constructor
 · rintro g rfl; exact g (Nat.zero_mul _)
 · intro g e
   rcases Nat.mul_eq_zero.1 e with e | e
   · exact g e
   · omega
theorem x0w {a d K E : Nat} : a / (d * 2 ^ E) = a * 2 ^ K / (d * 2 ^ (E + K)) ∧ (a * 2 ^ K % (d * 2 ^ (E + K)) ≠ 0 ↔ a % (d * 2 ^ E) ≠ 0) := by
 have e : d * 2 ^ (E + K) = d * 2 ^ E * 2 ^ K := by rw [Nat.pow_add, Nat.mul_assoc]
 rw [e, Nat.mul_div_mul_right _ _ (B03 K), Nat.mul_mod_mul_right]
 exact ⟨rfl, q0c (B03 K)⟩
theorem H0t {a d K E t : Nat} (h : E + t = K) : a * 2 ^ E / d = a * 2 ^ K / (d * 2 ^ t) ∧ (a * 2 ^ K % (d * 2 ^ t) ≠ 0 ↔ a * 2 ^ E % d ≠ 0) := by
 have e : a * 2 ^ K = a * 2 ^ E * 2 ^ t := by rw [← h, Nat.pow_add, Nat.mul_assoc]
 rw [e, Nat.mul_div_mul_right _ _ (B03 t), Nat.mul_mod_mul_right]
 exact ⟨rfl, q0c (B03 t)⟩
theorem M0i {N D q : Nat} (hD : 0 < D) (hq : q = N / D) : q / 2 = N / (D * 2) ∧ (N % (D * 2) ≠ 0 ↔ (N % D ≠ 0 ∨ q % 2 = 1)) := by
 subst hq
 refine ⟨Nat.div_div_eq_div_mul .., ?_⟩
 rw [Nat.mod_mul]
 rcases Nat.mod_two_eq_zero_or_one (N / D) with h | h
 · rw [h]; omega
 · rw [h]; omega
structure Spl (a d K T q : Nat) (rest : Prop) : Prop where
 quo : q = a * 2 ^ K / (d * 2 ^ T)
 rest : a * 2 ^ K % (d * 2 ^ T) ≠ 0 ↔ rest
 big : T = 0 ∨ 2 ^ 52 ≤ q
theorem Spl.congr {a d K T q : Nat} {rest rest' : Prop} (h : Spl a d K T q rest) (e : rest ↔ rest') : Spl a d K T q rest' := ⟨h.quo, h.rest.trans e, h.big⟩
theorem b0s {a d K T x y : Nat} (hd : 0 < d) (h1 : 2 ^ (x - 1) ≤ a) (h2 : d < 2 ^ y) (hx : 1 ≤ x) (hT : T + y + 53 = x + K) : 2 ^ 52 ≤ a * 2 ^ K / (d * 2 ^ T) := by
 rw [Nat.le_div_iff_mul_le (Nat.mul_pos hd (B03 T))]
 have a1 : 2 ^ 52 * (d * 2 ^ T) ≤ 2 ^ 52 * (2 ^ y * 2 ^ T) := Nat.mul_le_mul_left _ (Nat.mul_le_mul_right _ (by omega))
 have a2 : 2 ^ (x - 1) * 2 ^ K ≤ a * 2 ^ K := Nat.mul_le_mul_right _ h1
 rw [← Nat.pow_add, ← Nat.pow_add] at a1
 rw [← Nat.pow_add] at a2
 have e : 52 + (y + T) = x - 1 + K := by omega
 rw [e] at a1
 exact Nat.le_trans a1 a2
theorem B0l {a d K E q r : Nat} (hd : 0 < d) (hq : q = a / (d * 2 ^ E)) (hr : r = a % (d * 2 ^ E)) (hb : 2 ^ 52 ≤ a * 2 ^ K / (d * 2 ^ (E + 1 + K))) :
 Spl a d K (E + 1 + K) (q / 2) (r ≠ 0 ∨ q % 2 = 1) := by
 have s := M0i (N := a) (D := d * 2 ^ E) (Nat.mul_pos hd (B03 E)) hq
 have e : d * 2 ^ E * 2 = d * 2 ^ (E + 1) := by rw [Nat.pow_succ, Nat.mul_assoc]
 rw [e] at s
 have u := x0w (a := a) (d := d) (K := K) (E := E + 1)
 refine ⟨s.1.trans u.1, ?_, .inr ?_⟩
 · rw [u.2, s.2, hr]
 · rw [s.1, u.1]; exact hb
theorem l0g {a d K E T q r : Nat} (hd : 0 < d) (hE : E + 1 + T = K + 1) (hq : q = a * 2 ^ (E + 1) / d) (hr : r = a * 2 ^ (E + 1) % d) (hb : T = 0 ∨ 2 ^ 52 ≤ a * 2 ^ K / (d * 2 ^ T)) :
 Spl a d K T (q / 2) (r ≠ 0 ∨ q % 2 = 1) := by
 have s := M0i (N := a * 2 ^ (E + 1)) (D := d) hd hq
 have u := H0t (a := a) (d := d) (K := K) (E := E) (t := T) (by omega)
 have e : a * 2 ^ (E + 1) = a * 2 ^ E * 2 := by rw [Nat.pow_succ, Nat.mul_assoc]
 have e1 : a * 2 ^ (E + 1) / (d * 2) = a * 2 ^ E / d := by rw [e]; exact Nat.mul_div_mul_right _ _ (by omega)
 have e2 : a * 2 ^ (E + 1) % (d * 2) ≠ 0 ↔ a * 2 ^ E % d ≠ 0 := by rw [e, Nat.mul_mod_mul_right]; exact q0c (by omega)
 refine ⟨s.1.trans (e1.trans u.1), ?_, ?_⟩
 · rw [u.2, ← e2, s.2, hr]
 · rcases hb with h | h
   · exact .inl h
   · refine .inr ?_
     rw [s.1, e1, u.1]; exact h
theorem Spl.step {a d K T q : Nat} {rest : Prop} (hd : 0 < d) (h : Spl a d K T q rest) (hq : 2 ^ 53 ≤ q) : Spl a d K (T + 1) (q / 2) (rest ∨ q % 2 = 1) := by
 have s := M0i (N := a * 2 ^ K) (D := d * 2 ^ T) (Nat.mul_pos hd (B03 T)) h.quo
 have e : d * 2 ^ T * 2 = d * 2 ^ (T + 1) := by rw [Nat.pow_succ, Nat.mul_assoc]
 rw [e] at s
 exact ⟨s.1, by rw [s.2, h.rest], .inr (by omega)⟩
theorem Spl.core {a d K T m : Nat} {rest : Prop} (hd : 0 < d) (h : Spl a d K T m rest) :
 m * 2 ^ T * d ≤ a * 2 ^ K ∧ a * 2 ^ K < (m + 1) * 2 ^ T * d ∧ (¬ rest → m * 2 ^ T * d = a * 2 ^ K) ∧ (rest → m * 2 ^ T * d < a * 2 ^ K) := by
 have hr := h.rest
 have hq := h.quo
 have s : ∀ k : Nat, k * 2 ^ T * d = k * (d * 2 ^ T) := by intro k; ac_rfl
 rw [s, s]
 have hD : 0 < d * 2 ^ T := Nat.mul_pos hd (B03 T)
 generalize d * 2 ^ T = D at *
 generalize a * 2 ^ K = N at *
 have f := Nat.div_add_mod N D
 have g := Nat.mod_lt N hD
 rw [← hq] at f
 rw [Nat.add_mul, Nat.one_mul, Nat.mul_comm m D]
 refine ⟨by omega, by omega, fun n => ?_, fun y => ?_⟩
 · have z : N % D = 0 := Classical.byContradiction fun c => n (hr.1 c)
   omega
 · have z : N % D ≠ 0 := hr.2 y
   omega
theorem j0q {a b : Nat} (h : a ≤ b) : 2 ^ a ≤ 2 ^ b := Nat.pow_le_pow_right (by omega) h
theorem Spl.over {a d K T m : Nat} {rest : Prop} (hd : 0 < d) (h : Spl a d K T m rest) (hT : 2046 ≤ T) : rm infR * d ≤ a * 2 ^ K := by
 obtain ⟨g, hg⟩ : ∃ g, g = 2046 := ⟨_, rfl⟩
 rw [G0e hg, Nat.pow_add]
 have hb : 2 ^ 52 ≤ m := by rcases h.big with b | b <;> omega
 refine Nat.le_trans (Nat.mul_le_mul_right d ?_) (h.core hd).1
 exact Nat.mul_le_mul hb (j0q (by omega))
theorem Q02.spl {r n d K : Nat} (hK : K = 1074) (lt : r < infR) (le : rm r * d ≤ n * 2 ^ K) (next : n * 2 ^ K < rm (r + 1) * d) : Q02 r n d := by
 subst hK; exact ⟨lt, le, .inr next⟩
theorem IsUp.spl {r n d K : Nat} (hK : K = 1074) (le : r ≤ infR) (ge : n * 2 ^ K ≤ rm r * d) (prev : r = 0 ∨ rm (r - 1) * d < n * 2 ^ K) : IsUp r n d := by
 subst hK; exact ⟨le, .inr ge, prev⟩
theorem Q02.most' {n d K : Nat} (hK : K = 1074) (h : rm infR * d ≤ n * 2 ^ K) : Q02 (infR - 1) n d := by subst hK; exact Q02.most h
theorem IsUp.most' {n d K : Nat} (hK : K = 1074) (hd : 0 < d) (h : rm infR * d ≤ n * 2 ^ K) : IsUp infR n d := by subst hK; exact IsUp.most hd h
theorem Spl.rung {a d K T m : Nat} {rest : Prop} (h : Spl a d K T m rest) (hm : m < 2 ^ 53) : rm (T * 2 ^ 52 + m) = m * 2 ^ T ∧ rm (T * 2 ^ 52 + m + 1) = (m + 1) * 2 ^ T := by
 have b := h.big
 exact ⟨f07 ⟨b, by omega⟩, by rw [Nat.add_assoc]; exact f07 ⟨by omega, by omega⟩⟩
theorem b0n {T m : Nat} (hT : T ≤ 2045) (hm : m < 2 ^ 53) : T * 2 ^ 52 + m < infR := by unfold infR; omega
theorem Spl.isDown {a d K T m : Nat} {rest : Prop} (hK : K = 1074) (hd : 0 < d) (h : Spl a d K T m rest) (hm : m < 2 ^ 53) (hT : T ≤ 2045) : Q02 (T * 2 ^ 52 + m) a d := by
 have r := h.rung hm; have c := h.core hd
 exact .spl hK (b0n hT hm) (by rw [r.1]; exact c.1) (by rw [r.2]; exact c.2.1)
theorem Spl.isUp {a d K T m : Nat} {rest : Prop} (hK : K = 1074) (hd : 0 < d) (h : Spl a d K T m rest) (hm : m < 2 ^ 53) (hT : T ≤ 2045) (hr : ¬ rest) : IsUp (T * 2 ^ 52 + m) a d := by
 have r := h.rung hm; have c := (h.core hd).2.2.1 hr
 refine .spl hK (Nat.le_of_lt (b0n hT hm)) (by rw [r.1, c]; exact Nat.le_refl _) ?_
 by_cases z : T * 2 ^ 52 + m = 0
 · exact .inl z
 · refine .inr ?_
   rw [← c, ← r.1]
   exact Nat.mul_lt_mul_of_pos_right (D0e (by omega)) hd
theorem Spl.isUp1 {a d K T m : Nat} {rest : Prop} (hK : K = 1074) (hd : 0 < d) (h : Spl a d K T m rest) (hm : m < 2 ^ 53) (hT : T ≤ 2045) (hr : rest) : IsUp (T * 2 ^ 52 + m + 1) a d := by
 have r := h.rung hm; have c := h.core hd
 refine .spl hK (b0n hT hm) (by rw [r.2]; exact Nat.le_of_lt c.2.1) (.inr ?_)
 rw [Nat.add_sub_cancel, r.1]
 exact c.2.2.2 hr

theorem z0u (k : Nat) : ((2 ^ k : Nat) : Rat) ≠ 0 := W00 (by have : 0 < 2 ^ k := Nat.pow_pos (by omega); omega)
theorem b0o (k : Nat) : (0 : Rat) < ((2 ^ k : Nat) : Rat) := by
 have : 0 < 2 ^ k := Nat.pow_pos (by omega)
 exact_mod_cast this
theorem m0v {a : Int} {D : Nat} {q : Rat} (hD : D ≠ 0) : (a : Rat) / (D : Rat) < q ↔ a * (q.den : Int) < q.num * (D : Int) := by
 have h1 : q = (q.num : Rat) / (q.den : Rat) := by rw [← Rat.mkRat_eq_div]; exact (Rat.mkRat_self q).symm
 have hd : (0 : Rat) < (q.den : Rat) := by have : 0 < q.den := by have := q.den_nz; omega
                                           exact_mod_cast this
 have hD' : (0 : Rat) < (D : Rat) := by have : 0 < D := by omega
                                        exact_mod_cast this
 have e1 : (a : Rat) / (D : Rat) < q ↔ (a : Rat) * (q.den : Rat) < (q.num : Rat) * (D : Rat) := by
  conv => lhs; rw [h1]
  rw [Rat.div_lt_iff hD', Rat.div_def, Rat.mul_assoc, Rat.mul_comm (q.den : Rat)⁻¹, ← Rat.mul_assoc, ← Rat.div_def, Rat.lt_div_iff hd]
 rw [e1]; exact_mod_cast Iff.rfl
theorem n0v {a : Int} {D : Nat} {q : Rat} (hD : D ≠ 0) : q < (a : Rat) / (D : Rat) ↔ q.num * (D : Int) < a * (q.den : Int) := by
 have h1 : q = (q.num : Rat) / (q.den : Rat) := by rw [← Rat.mkRat_eq_div]; exact (Rat.mkRat_self q).symm
 have hd : (0 : Rat) < (q.den : Rat) := by have : 0 < q.den := by have := q.den_nz; omega
                                           exact_mod_cast this
 have hD' : (0 : Rat) < (D : Rat) := by have : 0 < D := by omega
                                        exact_mod_cast this
 have e1 : q < (a : Rat) / (D : Rat) ↔ (q.num : Rat) * (D : Rat) < (a : Rat) * (q.den : Rat) := by
  conv => lhs; rw [h1]
  rw [Rat.lt_div_iff hD', Rat.div_def, Rat.mul_assoc, Rat.mul_comm (q.den : Rat)⁻¹, ← Rat.mul_assoc, ← Rat.div_def, Rat.div_lt_iff hd]
 rw [e1]; exact_mod_cast Iff.rfl
theorem X0g (k : Nat) : 2 ^ k ≠ 0 := Nat.pos_iff_ne_zero.1 (Nat.pow_pos (by omega))
theorem b0l {k : Int} {q : Rat} : q < fkq k ↔ q.num * ((2 ^ 1074 : Nat) : Int) < kz k * (q.den : Int) := n0v (a := kz k) (X0g 1074)
theorem c0o (r : Nat) : kz (r : Int) = (rm r : Int) := by unfold kz; rw [if_neg (by omega), Int.natAbs_natCast]
theorem C03 {k : Int} (h : k.natAbs < infR) : endE k = ⟨0, fkq k⟩ := by
 unfold endE; rw [if_neg (by omega), if_neg (by omega)]
theorem g05 (q : Rat) : ¬ Eb.LT ⟨0, q⟩ (endE (l00 q)) := by
 have hd : 0 < q.den := by have := q.den_nz; omega
 obtain ⟨T, hT⟩ : ∃ T : Nat, T = 2 ^ 1074 := ⟨_, rfl⟩
 unfold l00
 by_cases c : 0 ≤ q.num
 · rw [if_pos c]
   have h := D02 (n := q.num.natAbs) hd
   rw [C03 (by rw [Int.natAbs_natCast]; exact h.lt)]
   rintro (g | ⟨_, _, g⟩)
   · exact absurd g (Int.lt_irrefl 0)
   · have g : q < fkq ((M05 q.num.natAbs q.den : Nat) : Int) := g
     rw [b0l, c0o] at g
     have hle := h.le
     rw [← hT] at g hle
     have e : q.num = (q.num.natAbs : Int) := by omega
     rw [e] at g
     have g2 : q.num.natAbs * T < rm (M05 q.num.natAbs q.den) * q.den := by exact_mod_cast g
     omega
 · rw [if_neg c]
   have h := E03 (n := q.num.natAbs) hd
   by_cases z : upK q.num.natAbs q.den = infR
   · rw [z]
     have e : endE (-(infR : Int)) = ⟨-1, 0⟩ := by unfold endE; rw [if_neg (by decide), if_pos rfl]
     rw [e]
     rintro (g | ⟨_, g, _⟩)
     · exact absurd g (by show ¬ (0 : Int) < -1; decide)
     · exact absurd g (by show ¬ (-1 : Int) = 0; decide)
   · have hle := h.le
     rw [C03 (by rw [Int.natAbs_neg, Int.natAbs_natCast]; omega)]
     rintro (g | ⟨_, _, g⟩)
     · exact absurd g (Int.lt_irrefl 0)
     · have g : q < fkq (-((upK q.num.natAbs q.den : Nat) : Int)) := g
       rw [b0l, K0r, c0o] at g
       rcases h.ge with h2 | h2
       · exact z h2
       · rw [← hT] at g h2
         have e : q.num * (T : Int) = -((q.num.natAbs * T : Nat) : Int) := by
          rw [Int.natCast_mul, ← Int.neg_mul]
          exact congrArg (fun x => x * (T : Int)) (by omega)
         rw [e, Int.neg_mul] at g
         have g2 : ((rm (upK q.num.natAbs q.den) * q.den : Nat) : Int) < ((q.num.natAbs * T : Nat) : Int) := by
          rw [Int.natCast_mul]; omega
         have := Int.ofNat_lt.1 g2
         omega
theorem L0a (q : Rat) : ¬ Eb.LT (endE (H00 q)) ⟨0, q⟩ := by
 intro h
 rw [← Eb.LT_neg] at h
 have e : (⟨0, q⟩ : Eb).neg = ⟨0, -q⟩ := by unfold Eb.neg; simp
 rw [e, ← Z03, ← F07] at h
 exact g05 (-q) h
theorem F06 {k l : Int} (hk : inK k) (hl : inK l) (h : k < l) : Eb.LT (endE k) (endE l) := by
 unfold inK at hk hl
 unfold endE
 rw [if_neg (by omega : ¬ k = (infR : Int))]
 by_cases a : k = -(infR : Int)
 · rw [if_pos a]
   by_cases b : l = (infR : Int)
   · rw [if_pos b]; exact .inl (by decide)
   · rw [if_neg b, if_neg (by omega)]; exact .inl (by show (-1 : Int) < 0; decide)
 · rw [if_neg a]
   by_cases b : l = (infR : Int)
   · rw [if_pos b]; exact .inl (by show (0 : Int) < 1; decide)
   · rw [if_neg b, if_neg (by omega)]
     refine .inr ⟨rfl, rfl, ?_⟩
     show fkq k < fkq l
     unfold fkq
     rw [Rat.div_lt_iff (b0o 1074), Rat.div_mul_cancel (z0u 1074)]
     exact_mod_cast i0v h
theorem o0v {k l : Int} (hk : inK k) (hl : inK l) (h : ¬ Eb.LT (endE l) (endE k)) : k ≤ l := Int.not_lt.1 fun g => h (F06 hl hk g)
theorem I0t {q : Rat} (h : l00 q = H00 q) : (l00 q).natAbs < infR ∧ fkq (l00 q) = q := by
 have h1 := g05 q
 have h2 := L0a q
 rw [← h] at h2
 have e : endE (l00 q) = ⟨0, q⟩ := Eb.LT.tri (g07 _) (.inl rfl) h2 h1
 have hb := p04 q
 unfold inK at hb
 have c1 : l00 q ≠ (infR : Int) := fun c => by
  rw [c] at e; unfold endE at e; rw [if_pos rfl] at e; exact absurd (congrArg Eb.inf e) (by show ¬ (1 : Int) = 0; decide)
 have c2 : l00 q ≠ -(infR : Int) := fun c => by
  rw [c] at e; unfold endE at e; rw [if_neg (by decide), if_pos rfl] at e; exact absurd (congrArg Eb.inf e) (by show ¬ (-1 : Int) = 0; decide)
 have c3 : (l00 q).natAbs < infR := by omega
 refine ⟨c3, ?_⟩
 rw [C03 c3] at e
 exact congrArg Eb.x e
theorem G0d {q : Rat} {k : Int} (hk : k.natAbs < infR) (h : fkq k = q) : l00 q = k ∧ H00 q = k := by
 have hd : 0 < q.den := by have := q.den_nz; omega
 obtain ⟨T, hT⟩ : ∃ T : Nat, T = 2 ^ 1074 := ⟨_, rfl⟩
 have hx : kz k * (q.den : Int) = q.num * (T : Int) := by
  have a1 : ¬ q < fkq k := by rw [h]; exact Rat.lt_irrefl
  have a2 : ¬ fkq k < q := by rw [h]; exact Rat.lt_irrefl
  rw [b0l] at a1
  have a2 : ¬ kz k * (q.den : Int) < q.num * ((2 ^ 1074 : Nat) : Int) := fun g => a2 ((m0v (a := kz k) (X0g 1074)).2 g)
  rw [← hT] at a1 a2
  omega
 have hz : kz k = if k < 0 then -(rm k.natAbs : Int) else (rm k.natAbs : Int) := rfl
 have hdi : (0 : Int) < (q.den : Int) := by omega
 have hTi : (0 : Int) < (T : Int) := by have := X0g 1074; rw [← hT] at this; omega
 have key : rm k.natAbs * q.den = q.num.natAbs * T := by
  have := congrArg Int.natAbs hx
  rw [Int.natAbs_mul, Int.natAbs_mul, Int.natAbs_natCast, Int.natAbs_natCast] at this
  have e : (kz k).natAbs = rm k.natAbs := by rw [hz]; split <;> omega
  rw [e] at this; exact this
 have hD : Q02 k.natAbs q.num.natAbs q.den := by
  refine ⟨hk, ?_, .inr ?_⟩
  · rw [← hT]; omega
  · rw [← hT, ← key]; exact Nat.mul_lt_mul_of_pos_right (D0e (by omega)) hd
 have hU : IsUp k.natAbs q.num.natAbs q.den := by
  refine ⟨by omega, .inr ?_, ?_⟩
  · rw [← hT]; omega
  · by_cases z : k.natAbs = 0
    · exact .inl z
    · refine .inr ?_
      rw [← hT, ← key]; exact Nat.mul_lt_mul_of_pos_right (D0e (by omega)) hd
 have e1 := hD.unique hd (D02 hd)
 have e2 := hU.unique hd (E03 hd)
 -- the signs agree
 have sg : 0 ≤ q.num ↔ 0 ≤ k ∨ k = 0 := by
  constructor
  · intro c
    refine Classical.byContradiction fun g => ?_
    have kn : k < 0 := by omega
    have p : 0 < rm k.natAbs := J0r (by omega)
    rw [hz, if_pos kn] at hx
    have a : (0 : Int) < (rm k.natAbs : Int) * (q.den : Int) := Int.mul_pos (by omega) hdi
    have b : (0 : Int) ≤ q.num * (T : Int) := Int.mul_nonneg c (by omega)
    rw [Int.neg_mul] at hx; omega
  · intro c
    have kn : ¬ k < 0 := by omega
    rw [hz, if_neg kn] at hx
    refine Int.not_lt.1 fun g => ?_
    have a : q.num * (T : Int) < 0 := Int.mul_neg_of_neg_of_pos g hTi
    have b : (0 : Int) ≤ (rm k.natAbs : Int) * (q.den : Int) := Int.mul_nonneg (by omega) (by omega)
    omega
 unfold l00 H00
 by_cases c : 0 ≤ q.num
 · have := sg.1 c
   rw [if_pos c, if_pos c, ← e1, ← e2]; omega
 · have : ¬ (0 ≤ k ∨ k = 0) := fun g => c (sg.2 g)
   rw [if_neg c, if_neg c, ← e1, ← e2]; omega

theorem y0w (k : Nat) : ∃ T : Nat, T = 2 ^ k ∧ 0 < T := ⟨_, rfl, B03 k⟩
theorem J0t : endE (infR : Int) = ⟨1, 0⟩ := by unfold endE; rw [if_pos rfl]
theorem i05 (q : Rat) : l00 q < (infR : Int) ∧ Eb.LT ⟨0, q⟩ (endE (l00 q + 1)) := by
 have hd : 0 < q.den := by have := q.den_nz; omega
 obtain ⟨T, hT, tp⟩ : ∃ T : Nat, T = 2 ^ 1074 ∧ 0 < T := y0w 1074
 have top : ∀ {k : Int}, k = (infR : Int) → Eb.LT ⟨0, q⟩ (endE k) := by
  intro k hk; rw [hk, J0t]; exact .inl (by show (0 : Int) < 1; decide)
 unfold l00
 by_cases c : 0 ≤ q.num
 · rw [if_pos c]
   have h := D02 (n := q.num.natAbs) hd
   have hlt := h.lt
   refine ⟨by omega, ?_⟩
   rcases h.next with e | e
   · exact top (by omega)
   · by_cases z : M05 q.num.natAbs q.den + 1 = infR
     · exact top (by omega)
     · rw [C03 (by omega)]
       refine .inr ⟨rfl, rfl, ?_⟩
       show q < fkq (((M05 q.num.natAbs q.den : Nat) : Int) + 1)
       have e1 : ((M05 q.num.natAbs q.den : Nat) : Int) + 1 = ((M05 q.num.natAbs q.den + 1 : Nat) : Int) := by omega
       rw [e1, b0l, c0o]
       rw [← hT] at e ⊢
       have e2 : q.num = (q.num.natAbs : Int) := by omega
       rw [e2]
       exact_mod_cast e
 · rw [if_neg c]
   have h := E03 (n := q.num.natAbs) hd
   have hle := h.le
   have hi : 0 < infR := by decide
   refine ⟨by omega, ?_⟩
   rcases h.prev with e | e
   · exfalso
     rcases h.ge with g | g
     · omega
     · rw [e, O08, Nat.zero_mul, ← hT] at g
       have np : 0 < q.num.natAbs := by omega
       have := Nat.mul_pos np tp
       omega
   · by_cases z : upK q.num.natAbs q.den = 0
     · exfalso
       rcases h.ge with g | g
       · omega
       · rw [z, O08, Nat.zero_mul, ← hT] at g
         have np : 0 < q.num.natAbs := by omega
         have := Nat.mul_pos np tp
         omega
     · have e1 : -((upK q.num.natAbs q.den : Nat) : Int) + 1 = -((upK q.num.natAbs q.den - 1 : Nat) : Int) := by omega
       rw [e1, C03 (by omega)]
       refine .inr ⟨rfl, rfl, ?_⟩
       show q < fkq (-((upK q.num.natAbs q.den - 1 : Nat) : Int))
       rw [b0l, K0r, c0o]
       rw [← hT] at e ⊢
       have e2 : q.num * (T : Int) = -((q.num.natAbs * T : Nat) : Int) := by
        rw [Int.natCast_mul, ← Int.neg_mul]
        exact congrArg (fun x => x * (T : Int)) (by omega)
       rw [e2, Int.neg_mul]
       have g2 : ((rm (upK q.num.natAbs q.den - 1) * q.den : Nat) : Int) < ((q.num.natAbs * T : Nat) : Int) := by exact_mod_cast e
       rw [Int.natCast_mul] at g2
       omega
theorem c0n (q : Rat) : (⟨0, q⟩ : Eb).neg = ⟨0, -q⟩ := by unfold Eb.neg; simp
theorem k0q (q : Rat) : -(infR : Int) < H00 q ∧ Eb.LT (endE (H00 q - 1)) ⟨0, q⟩ := by
 have h := i05 (-q)
 rw [F07] at h
 refine ⟨by omega, ?_⟩
 have h2 := h.2
 rw [← Eb.LT_neg, c0n, ← Z03] at h2
 have e : -(-H00 q + 1) = H00 q - 1 := by omega
 have e2 : (⟨0, - -q⟩ : Eb) = ⟨0, q⟩ := by congr 1; grind
 rw [e, e2] at h2
 exact h2
theorem d0o {q : Rat} {k : Int} (h0 : -(infR : Int) ≤ k) (h1 : k < (infR : Int)) (h2 : ¬ Eb.LT ⟨0, q⟩ (endE k)) (h3 : Eb.LT ⟨0, q⟩ (endE (k + 1))) : l00 q = k := by
 have b0 := p04 q
 have b1 := i05 q
 have b2 := g05 q
 unfold inK at b0
 rcases Int.lt_trichotomy (l00 q) k with h | h | h
 · exfalso
   rcases Int.lt_or_eq_of_le (show l00 q + 1 ≤ k by omega) with g | g
   · have := F06 (k := l00 q + 1) (l := k) ⟨by omega, by omega⟩ ⟨by omega, by omega⟩ g
     exact h2 (b1.2.trans this)
   · rw [← g] at h2; exact h2 b1.2
 · exact h
 · exfalso
   rcases Int.lt_or_eq_of_le (show k + 1 ≤ l00 q by omega) with g | g
   · have := F06 (k := k + 1) (l := l00 q) ⟨by omega, by omega⟩ ⟨by omega, by omega⟩ g
     exact b2 (h3.trans this)
   · rw [← g] at b2; exact b2 h3
theorem K0t {q : Rat} {k : Int} (h0 : -(infR : Int) < k) (h1 : k ≤ (infR : Int)) (h2 : ¬ Eb.LT (endE k) ⟨0, q⟩) (h3 : Eb.LT (endE (k - 1)) ⟨0, q⟩) : H00 q = k := by
 have e : l00 (-q) = -k := by
  refine d0o (by omega) (by omega) ?_ ?_
  · rw [Z03, ← c0n, Eb.LT_neg]; exact h2
  · have e1 : -k + 1 = -(k - 1) := by omega
    rw [e1, Z03, ← c0n, Eb.LT_neg]; exact h3
 rw [F07] at e
 omega
theorem H0e (q : Rat) : l00 q ≤ H00 q ∧ H00 q ≤ l00 q + 1 := by
 have b := p04 q; have a := E06 q
 have b1 := i05 q; have a1 := k0q q
 unfold inK at a b
 refine ⟨o0v (p04 q) (E06 q) fun h => ?_, ?_⟩
 · rcases Eb.LT.weak (b := (⟨0, q⟩ : Eb)) h with g | g
   · exact L0a q g
   · exact g05 q g
 · refine Int.not_lt.1 fun h => ?_
   have g : l00 q + 1 ≤ H00 q - 1 := by omega
   rcases Int.lt_or_eq_of_le g with g | g
   · exact Eb.LT.irrefl (b1.2.trans ((F06 (k := l00 q + 1) (l := H00 q - 1) ⟨by omega, by omega⟩ ⟨by omega, by omega⟩ g).trans a1.2))
   · rw [← g] at a1; exact Eb.LT.irrefl (b1.2.trans a1.2)
theorem S08 {a b : Rat} : Eb.LT ⟨0, a⟩ ⟨0, b⟩ ↔ a < b := by
 constructor
 · rintro (h | ⟨_, _, h⟩)
   · exact absurd h (Int.lt_irrefl 0)
   · exact h
 · exact fun h => .inr ⟨rfl, rfl, h⟩

theorem B04 {a b : Rat} (h0 : 0 ≤ a) (h : a ≤ b) : a * a ≤ b * b := by
 have h1 := Rat.mul_le_mul_of_nonneg_left h h0
 have h2 := Rat.mul_le_mul_of_nonneg_right h (show (0 : Rat) ≤ b by grind)
 grind
theorem d0n {a b : Rat} (h0 : 0 ≤ a) (h : a < b) : a * a < b * b := by
 have h1 := Rat.mul_le_mul_of_nonneg_left (Rat.le_of_lt h) h0
 have h2 := Rat.mul_lt_mul_of_pos_right h (show (0 : Rat) < b by grind)
 grind
theorem m06 {a b : Rat} (hb : 0 ≤ b) (h : a * a ≤ b * b) : a ≤ b := by
 refine Rat.not_lt.1 fun g => ?_
 have := d0n hb g
 grind
theorem L0t {a b : Rat} (hb : 0 ≤ b) (h : a * a < b * b) : a < b := by
 refine Rat.not_le.1 fun g => ?_
 have := B04 hb g
 grind
def rtD (x q : Rat) : Rat := q * q * 2 - x
def rtP (x n q : Rat) : Prop := rtD x q < 0 ∨ rtD x q * rtD x q ≤ n
def rtC (x n q : Rat) : Int := if rtD x q < 0 then -1 else cmpR (rtD x q * rtD x q) n
theorem c0s {x n q : Rat} : rtC x n q ≤ 0 ↔ rtP x n q := by
 unfold rtC rtP
 by_cases h : rtD x q < 0
 · rw [if_pos h]; exact ⟨fun _ => .inl h, fun _ => by decide⟩
 · rw [if_neg h]
   unfold cmpR
   by_cases h1 : rtD x q * rtD x q < n
   · rw [if_pos h1]; exact ⟨fun _ => .inr (Rat.le_of_lt h1), fun _ => by decide⟩
   · rw [if_neg h1]
     by_cases h2 : rtD x q * rtD x q = n
     · rw [if_pos h2]; exact ⟨fun _ => .inr (by grind), fun _ => by decide⟩
     · rw [if_neg h2]
       refine ⟨fun e => absurd e (by decide), fun e => ?_⟩
       rcases e with e | e
       · exact absurd e h
       · grind
theorem E09 {x n q : Rat} : rtC x n q = 0 ↔ 0 ≤ rtD x q ∧ rtD x q * rtD x q = n := by
 unfold rtC
 by_cases h : rtD x q < 0
 · rw [if_pos h]; exact ⟨fun e => absurd e (by decide), fun e => by grind⟩
 · rw [if_neg h]
   have h0 : 0 ≤ rtD x q := by grind
   unfold cmpR
   by_cases h1 : rtD x q * rtD x q < n
   · rw [if_pos h1]; exact ⟨fun e => absurd e (by decide), fun e => by grind⟩
   · rw [if_neg h1]
     by_cases h2 : rtD x q * rtD x q = n
     · rw [if_pos h2]; exact ⟨fun _ => ⟨h0, h2⟩, fun _ => rfl⟩
     · rw [if_neg h2]; exact ⟨fun e => absurd e (by decide), fun e => absurd e.2 h2⟩
theorem M0t {x n p q : Rat} (hp : 0 ≤ p) (hpq : p ≤ q) (h : rtP x n q) : rtP x n p := by
 have s := B04 hp hpq
 have d : rtD x p ≤ rtD x q := by unfold rtD; grind
 by_cases c : rtD x p < 0
 · exact .inl c
 · refine .inr ?_
   have c0 : 0 ≤ rtD x p := by grind
   have := B04 c0 d
   rcases h with h | h
   · grind
   · grind
theorem p0v {x n p q : Rat} (hp : 0 ≤ p) (hpq : p < q) (h : rtC x n p = 0) : ¬ rtP x n q := by
 obtain ⟨h1, h2⟩ := E09.1 h
 have s := d0n hp hpq
 have d : rtD x p < rtD x q := by unfold rtD; grind
 have t := d0n h1 d
 rintro (g | g)
 · grind
 · grind
structure n06 (P : Rat → Prop) (r : Nat) : Prop where
 lt : r < infR
 le : P (fkq (r : Int))
 next : r + 1 = infR ∨ ¬ P (fkq ((r + 1 : Nat) : Int))
theorem d0s {a b : Int} : fkq a < fkq b ↔ a < b := by
 unfold fkq
 rw [Rat.div_lt_iff (b0o 1074), Rat.div_mul_cancel (z0u 1074)]
 constructor
 · intro h; exact C0b.1 (by exact_mod_cast h)
 · intro h; exact_mod_cast C0b.2 h
theorem Q0c {a b : Int} (h : a ≤ b) : fkq a ≤ fkq b := by
 rcases Int.lt_or_eq_of_le h with h | h
 · exact Rat.le_of_lt (d0s.2 h)
 · rw [h]; exact Rat.le_refl
theorem b08 : fkq 0 = 0 := by
 unfold fkq
 have : kz 0 = 0 := by decide
 rw [this, Rat.div_def]; exact Rat.zero_mul _
theorem T02 (r : Nat) : 0 ≤ fkq (r : Int) := by
 have := Q0c (a := 0) (b := (r : Int)) (by omega)
 rw [b08] at this; exact this
theorem n06.unique {P : Rat → Prop} (hP : ∀ p q, 0 ≤ p → p ≤ q → P q → P p) {r s : Nat} (h : n06 P r) (k : n06 P s) : r = s := by
 have key : ∀ {a b : Nat}, n06 P a → n06 P b → ¬ a < b := by
  intro a b ha hb c
  rcases ha.next with e | e
  · have := hb.lt; omega
  · exact e (hP _ _ (T02 _) (Q0c (by omega)) hb.le)
 have := key h k
 have := key k h
 omega
theorem n06.congr {P Q : Rat → Prop} (h : ∀ q, 0 ≤ q → (P q ↔ Q q)) {r : Nat} (k : n06 P r) : n06 Q r :=
 ⟨k.lt, (h _ (T02 _)).1 k.le, k.next.imp id fun n e => n ((h _ (T02 _)).2 e)⟩
theorem c07 {P : Rat → Prop} (h0 : P 0) : ∃ r, n06 P r := by
 have : ∀ m : Nat, ∃ r, r ≤ m ∧ P (fkq (r : Int)) ∧ (r = m ∨ ¬ P (fkq ((r + 1 : Nat) : Int))) := by
  intro m
  induction m with
  | zero => exact ⟨0, Nat.le_refl _, by rw [show ((0 : Nat) : Int) = 0 from rfl, b08]; exact h0, .inl rfl⟩
  | succ m ih =>
    obtain ⟨r, h1, h2, h3⟩ := ih
    by_cases c : r = m ∧ P (fkq ((m + 1 : Nat) : Int))
    · exact ⟨m + 1, Nat.le_refl _, c.2, .inl rfl⟩
    · refine ⟨r, by omega, h2, .inr ?_⟩
      rcases h3 with h3 | h3
      · rw [h3]; exact fun g => c ⟨h3, g⟩
      · exact h3
 obtain ⟨m, hm⟩ : ∃ m, m + 1 = infR := ⟨infR - 1, by decide⟩
 obtain ⟨r, h1, h2, h3⟩ := this m
 exact ⟨r, by omega, h2, h3.imp (fun e => by omega) id⟩
theorem e0o {q : Rat} {k : Int} (hk : k.natAbs < infR) (h : ¬ Eb.LT ⟨0, q⟩ (endE k)) : fkq k ≤ q := by
 rw [C03 hk, S08] at h; exact Rat.not_lt.1 h
theorem S0c {q : Rat} (h : 0 ≤ q) : 0 ≤ l00 q := by
 have b1 := i05 q
 refine Int.not_lt.1 fun c => ?_
 have b := p04 q
 unfold inK at b
 by_cases e : l00 q = -(infR : Int)
 · have hi : (0 : Nat) < infR - 1 := by decide
   have h2 := b1.2
   rw [C03 (by omega), S08] at h2
   have := Q0c (a := l00 q + 1) (b := 0) (by omega)
   rw [b08] at this; grind
 · have h2 := b1.2
   rw [C03 (by omega), S08] at h2
   have := Q0c (a := l00 q + 1) (b := 0) (by omega)
   rw [b08] at this; grind
theorem e0s {P : Rat → Prop} (hP : ∀ p q, 0 ≤ p → p ≤ q → P q → P p) {lo hi : Rat} (h0 : 0 ≤ lo) (hh : 0 ≤ hi) (h1 : P lo) (h2 : ¬ P hi) (hb : l00 lo = l00 hi) (ha : H00 lo = H00 hi) :
 ∃ r : Nat, n06 P r ∧ l00 lo = r ∧ H00 lo = ((r + 1 : Nat) : Int) ∧ ∃ q, fkq (r : Int) < q ∧ P q := by
 have hlt : lo < hi := Rat.not_le.1 fun g => h2 (hP _ _ hh g h1)
 have k0 := S0c h0
 have kn := i05 lo
 have kf := g05 lo
 have kn2 := i05 hi
 rw [← hb] at kn2
 obtain ⟨r, hr⟩ : ∃ r : Nat, l00 lo = r := ⟨(l00 lo).toNat, by omega⟩
 rw [hr] at kn kf kn2
 have ab := H0e lo
 rw [hr] at ab
 have hle := e0o (by omega) kf
 have hne : H00 lo ≠ r := by
  intro e
  have af := L0a hi
  rw [← ha, e, C03 (by omega), S08] at af
  have : hi ≤ fkq (r : Int) := Rat.not_lt.1 af
  grind
 have hne2 : fkq (r : Int) ≠ lo := by
  intro e
  exact hne (G0d (by omega) e).2
 refine ⟨r, ⟨by omega, hP _ _ (T02 r) hle h1, ?_⟩, hr, by omega, lo, by grind, h1⟩
 by_cases c : r + 1 = infR
 · exact .inl c
 · refine .inr fun g => h2 (hP _ _ hh ?_ g)
   have := kn2.2
   rw [C03 (by omega), S08] at this
   have e : ((r : Nat) : Int) + 1 = ((r + 1 : Nat) : Int) := by omega
   rw [e] at this
   exact Rat.le_of_lt this
theorem f0s {P : Rat → Prop} (hP : ∀ p q, 0 ≤ p → p ≤ q → P q → P p) {z : Rat} (h0 : 0 ≤ z) (h1 : P z) (h2 : ∀ q, z < q → ¬ P q) :
 ∃ r : Nat, n06 P r ∧ l00 z = r ∧ ((fkq (r : Int) = z ∧ H00 z = r) ∨ (fkq (r : Int) < z ∧ H00 z = ((r + 1 : Nat) : Int))) := by
 have k0 := S0c h0
 have kn := i05 z
 have kf := g05 z
 obtain ⟨r, hr⟩ : ∃ r : Nat, l00 z = r := ⟨(l00 z).toNat, by omega⟩
 rw [hr] at kn kf
 have ab := H0e z
 rw [hr] at ab
 have hle := e0o (by omega) kf
 refine ⟨r, ⟨by omega, hP _ _ (T02 r) hle h1, ?_⟩, hr, ?_⟩
 · by_cases c : r + 1 = infR
   · exact .inl c
   · refine .inr (h2 _ ?_)
     have := kn.2
     rw [C03 (by omega), S08] at this
     have e : ((r : Nat) : Int) + 1 = ((r + 1 : Nat) : Int) := by omega
     rw [e] at this
     exact this
 · by_cases e : fkq (r : Int) = z
   · exact .inl ⟨e, (G0d (by omega) e).2⟩
   · refine .inr ⟨by grind, ?_⟩
     rcases (by omega : H00 z = r ∨ H00 z = r + 1) with g | g
     · exact absurd (by have := (I0t (q := z) (by omega)).2; rw [hr] at this; exact this) e
     · omega
theorem g0s {lo hi : Rat} {r : Nat} (hr : r + 1 < infR) (h1 : fkq (r : Int) < lo) (h2 : lo ≤ hi) (h3 : hi < fkq ((r + 1 : Nat) : Int)) : l00 lo = l00 hi ∧ H00 lo = H00 hi := by
 have key : ∀ {q : Rat}, fkq (r : Int) < q → q < fkq ((r + 1 : Nat) : Int) → l00 q = r ∧ H00 q = ((r + 1 : Nat) : Int) := by
  intro q a b
  have e1 : ((r : Nat) : Int) + 1 = ((r + 1 : Nat) : Int) := by omega
  have e2 : ((r + 1 : Nat) : Int) - 1 = (r : Int) := by omega
  refine ⟨d0o (by omega) (by omega) ?_ ?_, K0t (by omega) (by omega) ?_ ?_⟩
  · rw [C03 (by omega), S08]; grind
  · rw [e1, C03 (by omega), S08]; exact b
  · rw [C03 (by omega), S08]; grind
  · rw [e2, C03 (by omega), S08]; exact a
 have k1 := key h1 (by grind)
 have k2 := key (q := hi) (by grind) h3
 exact ⟨k1.1.trans k2.1.symm, k1.2.trans k2.2.symm⟩
theorem l0q {v B A u lo : Rat} (hB : 0 ≤ B) (hA : B < A) (h1 : B * B < v) (h2 : v < A * A) (u0 : 0 < u) (u1 : u ≤ 1) (ub : u * (2 * B + 1) ≤ v - B * B) (ua : u * (2 * A + 1) ≤ A * A - v)
 (l0 : 0 ≤ lo) (l1 : lo * lo ≤ v) (l2 : v < (lo + u) * (lo + u)) : B < lo ∧ lo + u < A := by
 have uu : u * u ≤ u := by have := Rat.mul_le_mul_of_nonneg_left u1 (Rat.le_of_lt u0); grind
 constructor
 · refine Rat.not_le.1 fun g => ?_
   have := B04 (a := lo + u) (b := B + u) (by grind) (by grind)
   grind
 · refine Rat.not_le.1 fun g => ?_
   have p0 : 0 < u * A := Rat.mul_pos u0 (by grind)
   have vn : 0 ≤ lo * lo := Rat.mul_nonneg l0 l0
   by_cases c : u ≤ A
   · have := B04 (a := A - u) (b := lo) (by grind) (by grind)
     have q0 : 0 ≤ u * u := Rat.mul_nonneg (Rat.le_of_lt u0) (Rat.le_of_lt u0)
     grind
   · have c : A < u := Rat.not_le.1 c
     have := Rat.mul_lt_mul_of_pos_right c (show (0 : Rat) < A by grind)
     grind
theorem w00 (a : Rat) : 0 ≤ a * a := by
 by_cases z : 0 ≤ a
 · exact Rat.mul_nonneg z z
 · have := Rat.mul_nonneg (show 0 ≤ -a by grind) (show 0 ≤ -a by grind); grind
theorem N0t {D M u n a : Rat} (u0 : 0 < u) (uu : u * u ≤ u) (n0 : 0 ≤ n) (M0 : 0 ≤ M) (h : D < 0 ∨ D * D < n) (ub : D < 0 → u * M ≤ -D) (ub2 : 0 ≤ D → u * (M * (2 * D + M)) ≤ n - D * D)
 (a0 : 0 ≤ a) (a2 : n < (a + u) * (a + u)) : ¬ a + u < D + u * M := by
 intro e
 have f := d0n (a := a + u) (by grind) e
 by_cases c : D < 0
 · have := ub c; grind
 · have c0 : 0 ≤ D := Rat.not_lt.1 c
   have w := ub2 c0
   have k1 := Rat.mul_le_mul_of_nonneg_right uu (w00 M)
   have e2 : (D + u * M) * (D + u * M) = D * D + u * (M * (2 * D)) + u * u * (M * M) := by grind
   have e3 : u * (M * (2 * D + M)) = u * (M * (2 * D)) + u * (M * M) := by grind
   rw [e2] at f; rw [e3] at w
   grind
theorem i0s {D M u n a : Rat} (u0 : 0 < u) (n0 : 0 ≤ n) (M0 : 0 < M) (h : 0 < D) (h3 : n < D * D) (ua : u * (2 * D * M + 1) ≤ D * D - n) (a0 : 0 ≤ a) (a1 : a * a ≤ n) : ¬ D - u * M ≤ a := by
 intro g
 have e : u * (2 * D * M + 1) = 2 * D * (u * M) + u := by grind
 rw [e] at ua
 have s : a * a < (D - u * M) * (D - u * M) := by
  have e2 : (D - u * M) * (D - u * M) = D * D - 2 * D * (u * M) + u * M * (u * M) := by grind
  have := w00 (u * M)
  rw [e2]; grind
 have p : 0 ≤ D - u * M := by
  refine Rat.not_lt.1 fun c => ?_
  have h1 := Rat.mul_lt_mul_of_pos_left (show D < u * M by grind) h
  grind
 have := L0t p s
 grind
theorem m0q {x n B A u a v h lo : Rat} (hB : 0 ≤ B) (hA : B < A) (h1 : rtD x B < 0 ∨ rtD x B * rtD x B < n) (h2 : 0 < rtD x A) (h3 : n < rtD x A * rtD x A) (n0 : 0 ≤ n) (u0 : 0 < u) (u1 : u ≤ 1) (uA : u ≤ A)
 (ub : rtD x B < 0 → u * (4 * B + 3) ≤ -rtD x B) (ub2 : 0 ≤ rtD x B → u * ((4 * B + 3) * (2 * rtD x B + (4 * B + 3))) ≤ n - rtD x B * rtD x B) (ua : u * (2 * rtD x A * (4 * A + 1) + 1) ≤ rtD x A * rtD x A - n)
 (a0 : 0 ≤ a) (a1 : a * a ≤ n) (a2 : n < (a + u) * (a + u)) (v1 : a + x ≤ v * 2) (lo0 : 0 ≤ lo) (l2 : v < (lo + u) * (lo + u))
 (hh0 : 0 ≤ h) (hh1 : h * h * 2 ≤ a + u + x) : B < lo ∧ h + u < A := by
 have uu : u * u ≤ u := by have := Rat.mul_le_mul_of_nonneg_left u1 (Rat.le_of_lt u0); grind
 have q0 : 0 ≤ u * u := Rat.mul_nonneg (Rat.le_of_lt u0) (Rat.le_of_lt u0)
 constructor
 · refine Rat.not_le.1 fun g => ?_
   have s := B04 (a := lo + u) (b := B + u) (by grind) (by grind)
   refine N0t u0 uu n0 (show 0 ≤ 4 * B + 3 by grind) h1 ub ub2 a0 a2 ?_
   have e : (B + u) * (B + u) = B * B + 2 * (u * B) + u * u := by grind
   have e2 : u * (4 * B + 3) = 4 * (u * B) + 3 * u := by grind
   rw [e] at s
   rw [e2]; unfold rtD; grind
 · refine Rat.not_le.1 fun g => ?_
   refine i0s u0 n0 (show 0 < 4 * A + 1 by grind) h2 h3 ua a0 a1 ?_
   have s := B04 (a := A - u) (b := h) (by grind) (by grind)
   have e : (A - u) * (A - u) = A * A - 2 * (u * A) + u * u := by grind
   have e2 : u * (4 * A + 1) = 4 * (u * A) + u := by grind
   rw [e] at s
   rw [e2]; unfold rtD; grind

theorem G07 : endE 0 = Eb.fin 0 := by
 rw [C03 (by decide), b08]; rfl
theorem H07 {k : Int} (hk : inK k) : (endE k).sign = cmpZ k 0 := by
 have z : inK 0 := by unfold inK infR; omega
 have e : (endE k).sign = (endE k).cmp (endE 0) := by rw [G07]; rfl
 rw [e]
 rcases Int.lt_trichotomy k 0 with h | h | h
 · rw [J0a h, Eb.cmp_neg1.2 (F06 hk z h)]
 · rw [D0i h, h]
   have r := Eb.cmp_range (endE 0) (endE 0)
   rcases r with r | r | r
   · exact absurd (Eb.cmp_neg1.1 r) Eb.LT.irrefl
   · exact r
   · exact absurd (Eb.cmp_1.1 r) Eb.LT.irrefl
 · rw [C0e h, Eb.cmp_1.2 (F06 z hk h)]
theorem I0e {s : Sk} (h : s.ok) : s.set.zero = (decide (s.lo ≤ 0) && decide (0 ≤ s.hi)) := by
 show (decide ((endE s.lo).sign ≤ 0) && decide (0 ≤ (endE s.hi).sign)) = _
 rw [H07 h.lo, H07 h.hi]
 have a : (cmpZ s.lo 0 ≤ 0) ↔ s.lo ≤ 0 := by unfold cmpZ; split <;> (try split) <;> omega
 have b : (0 ≤ cmpZ s.hi 0) ↔ 0 ≤ s.hi := by unfold cmpZ; split <;> (try split) <;> omega
 rw [decide_eq_decide.2 a, decide_eq_decide.2 b]
theorem O0t {s : Sk} (h : s.ok) (p : s.proper) : s.set.span = s := by
 have key1 : (if (endE s.lo).inf = 0 then l00 (endE s.lo).x else -(infR : Int)) = s.lo := by
  have a := h.lo; unfold inK at a
  by_cases c : s.lo = -(infR : Int)
  · have e : endE s.lo = ⟨-1, 0⟩ := by unfold endE; rw [if_neg p.2.1, if_pos c]
    rw [e, if_neg (by decide), c]
  · have hn := p.2.1
    rw [C03 (by omega), if_pos rfl]
    exact (G0d (by omega) rfl).1
 have key2 : (if (endE s.hi).inf = 0 then H00 (endE s.hi).x else (infR : Int)) = s.hi := by
  have a := h.hi; unfold inK at a
  by_cases c : s.hi = (infR : Int)
  · have e : endE s.hi = ⟨1, 0⟩ := by unfold endE; rw [if_pos c]
    rw [e, if_neg (by decide), c]
  · have hn := p.2.2
    rw [C03 (by omega), if_pos rfl]
    exact (G0d (by omega) rfl).2
 show Sk.mk _ _ = s
 rw [show (if s.set.lo.inf = 0 then l00 s.set.lo.x else -(infR : Int)) = s.lo from key1, show (if s.set.hi.inf = 0 then H00 s.set.hi.x else (infR : Int)) = s.hi from key2]
theorem zero_add {e : Eb} (h : e.ok) : (Eb.fin 0).add e = e := by
 unfold Eb.add
 rw [if_neg (by decide)]
 by_cases c : e.inf = 0
 · rw [if_neg (by omega)]
   cases e
   dsimp only at c ⊢
   rw [c]
   congr 1
   show (0 : Rat) + _ = _
   grind
 · rw [if_pos c]
theorem P0t {s : Sk} (h : s.ok) (p : s.proper) : (Sk.nil.set.add s.set.neg).span = s.neg := by
 have e : Sk.nil.set.add s.set.neg = s.set.neg := by
  show Es.mk ((endE 0).add (endE s.hi).neg) ((endE 0).add (endE s.lo).neg) = _
  rw [G07, zero_add (Eb.neg_ok (g07 _)), zero_add (Eb.neg_ok (g07 _))]; rfl
 rw [e, P0a, O0t h p]
def Eb.abs (a : Eb) : Eb := if a.sign < 0 then a.neg else a
def Es.size (a : Es) : Es := if a.zero then ⟨Eb.fin 0, Eb.pick 1 [a.lo.abs, a.hi.abs]⟩ else ⟨Eb.pick (-1) [a.lo.abs, a.hi.abs], Eb.pick 1 [a.lo.abs, a.hi.abs]⟩
def Es.square (a : Es) : Es := ⟨a.size.lo.mul a.size.lo, a.size.hi.mul a.size.hi⟩
theorem A0u {a : Eb} (h : a.ok) : a.abs.ok := by
 unfold Eb.abs; split
 · exact Eb.neg_ok h
 · exact h
theorem q0v {a : Eb} (h : a.inf = 0) : a.abs = ⟨0, if a.x < 0 then -a.x else a.x⟩ := by
 have s : a.sign = cmpR a.x 0 := by
  show (if a.inf ≠ 0 ∨ (0 : Int) ≠ 0 then cmpZ a.inf 0 else cmpR a.x 0) = _
  rw [if_neg (by omega)]
 unfold Eb.abs
 rw [s]
 by_cases c : a.x < 0
 · rw [if_pos c, if_pos (by unfold cmpR; rw [if_pos c]; decide)]
   show Eb.mk (-a.inf) (-a.x) = _; rw [h]; rfl
 · rw [if_neg c, if_neg (by unfold cmpR; rw [if_neg c]; split <;> decide)]
   cases a; dsimp only at h; rw [h]
theorem e0n {a : Eb} (h : a.inf ≠ 0) (ho : a.ok) : a.abs = ⟨1, 0⟩ := by
 rcases ho with g | ⟨g, g2⟩
 · exact absurd g h
 · have s := S09 h
   unfold Eb.abs
   rcases g2 with g2 | g2
   · rw [if_neg (by rw [s.2 (by omega)]; decide)]
     cases a; dsimp only at g g2; rw [g, g2]
   · rw [if_pos (by rw [s.1 (by omega)]; decide)]
     cases a; dsimp only at g g2; rw [g, g2]; rfl

theorem H0d {x n : Rat} (h : x * x ≤ n) : rtP x n 0 := by
 unfold rtP rtD
 by_cases c : (0 : Rat) * 0 * 2 - x < 0
 · exact .inl c
 · refine .inr ?_
   have e : ((0 : Rat) * 0 * 2 - x) * (0 * 0 * 2 - x) = x * x := by grind
   rw [e]; exact h
theorem j0s (x y : Rat) : x * x ≤ x * x + y * y := by have := w00 y; grind
def i00 (e f : Eb) (up : Bool) (k : Nat) : Prop :=
 if 0 < e.inf ∨ f.inf ≠ 0 then k = infR else if e.inf < 0 then k = 0
 else ∃ r, n06 (rtP e.x (e.x * e.x + f.x * f.x)) r ∧ k = if up = true ∧ rtC e.x (e.x * e.x + f.x * f.x) (fkq (r : Int)) ≠ 0 then r + 1 else r
theorem N0i (x n : Rat) : ∀ p q, 0 ≤ p → p ≤ q → rtP x n q → rtP x n p := fun _ _ => M0t
theorem i00.unique {e f : Eb} {up : Bool} {k l : Nat} (h : i00 e f up k) (g : i00 e f up l) : k = l := by
 unfold i00 at h g
 by_cases c : 0 < e.inf ∨ f.inf ≠ 0
 · rw [if_pos c] at h g; rw [h, g]
 · rw [if_neg c] at h g
   by_cases d : e.inf < 0
   · rw [if_pos d] at h g; rw [h, g]
   · rw [if_neg d] at h g
     obtain ⟨r, h1, h2⟩ := h
     obtain ⟨s, g1, g2⟩ := g
     have := h1.unique (N0i _ _) g1
     subst this
     rw [h2, g2]
theorem i00.le {e f : Eb} {up : Bool} {k : Nat} (h : i00 e f up k) : k ≤ infR := by
 unfold i00 at h
 split at h
 · omega
 · split at h
   · omega
   · obtain ⟨r, h1, h2⟩ := h
     have := h1.lt
     split at h2 <;> omega
theorem p03 {k : Nat} (h : k ≤ infR) : inK (k : Int) := ⟨by omega, by omega⟩
theorem T08 {k : Int} (h : inK k) : inK (-k) := by unfold inK at *; omega
def f0n (s t : Sk) : Prop := if s.lo < 0 then t = Sk.nil else ∃ k l : Nat, t = ⟨(k : Int), (l : Int)⟩ ∧ i00 s.set.lo (Eb.fin 0) false k ∧ i00 s.set.hi (Eb.fin 0) true l
theorem f0n.unique {s t u : Sk} (h : f0n s t) (g : f0n s u) : t = u := by
 unfold f0n at h g
 split at h
 · rename_i c; rw [if_pos c] at g; rw [h, g]
 · rename_i c; rw [if_neg c] at g
   obtain ⟨k, l, e, h1, h2⟩ := h
   obtain ⟨k', l', e', g1, g2⟩ := g
   rw [e, e', h1.unique g1, h2.unique g2]
theorem f0n.ok {s t : Sk} (h : f0n s t) : t.ok := by
 unfold f0n at h
 split at h
 · rw [h]; exact Sk.nil_ok
 · obtain ⟨k, l, e, h1, h2⟩ := h
   rw [e]; exact ⟨p03 h1.le, p03 h2.le⟩
structure J0e (b t : Bk) : Prop where
 r1 : ∃ k : Nat, t.re.lo = k ∧ i00 b.re.set.lo b.im.set.size.lo false k
 r2 : ∃ k : Nat, t.re.hi = k ∧ i00 b.re.set.hi b.im.set.size.hi true k
 i1 : ∃ k : Nat, (b.im.lo < 0 → t.im.lo = -(k : Int) ∧ i00 b.re.set.lo.neg b.im.set.lo.neg true k) ∧ (¬ b.im.lo < 0 → t.im.lo = k ∧ i00 b.re.set.hi.neg b.im.set.lo false k)
 i2 : ∃ k : Nat, (b.im.hi < 0 → t.im.hi = -(k : Int) ∧ i00 b.re.set.hi.neg b.im.set.hi.neg false k) ∧ (¬ b.im.hi < 0 → t.im.hi = k ∧ i00 b.re.set.lo.neg b.im.set.hi true k)
theorem J0e.unique {b t u : Bk} (h : J0e b t) (g : J0e b u) : t = u := by
 obtain ⟨k1, a1, b1⟩ := h.r1; obtain ⟨l1, c1, d1⟩ := g.r1
 obtain ⟨k2, a2, b2⟩ := h.r2; obtain ⟨l2, c2, d2⟩ := g.r2
 obtain ⟨k3, a3, b3⟩ := h.i1; obtain ⟨l3, c3, d3⟩ := g.i1
 obtain ⟨k4, a4, b4⟩ := h.i2; obtain ⟨l4, c4, d4⟩ := g.i2
 have e1 : t.re.lo = u.re.lo := by rw [a1, c1, b1.unique d1]
 have e2 : t.re.hi = u.re.hi := by rw [a2, c2, b2.unique d2]
 have e3 : t.im.lo = u.im.lo := by
  by_cases c : b.im.lo < 0
  · rw [(a3 c).1, (c3 c).1, (a3 c).2.unique (c3 c).2]
  · rw [(b3 c).1, (d3 c).1, (b3 c).2.unique (d3 c).2]
 have e4 : t.im.hi = u.im.hi := by
  by_cases c : b.im.hi < 0
  · rw [(a4 c).1, (c4 c).1, (a4 c).2.unique (c4 c).2]
  · rw [(b4 c).1, (d4 c).1, (b4 c).2.unique (d4 c).2]
 obtain ⟨⟨t1, t2⟩, ⟨t3, t4⟩⟩ := t
 obtain ⟨⟨u1, u2⟩, ⟨u3, u4⟩⟩ := u
 dsimp only at e1 e2 e3 e4
 rw [e1, e2, e3, e4]
theorem J0e.ok {b t : Bk} (h : J0e b t) : t.ok := by
 obtain ⟨k1, a1, b1⟩ := h.r1
 obtain ⟨k2, a2, b2⟩ := h.r2
 obtain ⟨k3, a3, b3⟩ := h.i1
 obtain ⟨k4, a4, b4⟩ := h.i2
 refine ⟨⟨?_, ?_⟩, ⟨?_, ?_⟩⟩
 · rw [a1]; exact p03 b1.le
 · rw [a2]; exact p03 b2.le
 · by_cases c : b.im.lo < 0
   · rw [(a3 c).1]; exact T08 (p03 (a3 c).2.le)
   · rw [(b3 c).1]; exact p03 (b3 c).2.le
 · by_cases c : b.im.hi < 0
   · rw [(a4 c).1]; exact T08 (p03 (a4 c).2.le)
   · rw [(b4 c).1]; exact p03 (b4 c).2.le

theorem z0w {a x q y : Nat} (hq : a < x * (q + 1)) (hy : x + q ≤ 2 * y + 1) : a < (y + 1) * (y + 1) := by
 have h1 : x + (q + 1) ≤ 2 * (y + 1) := by omega
 have h2 : (x + (q + 1)) * (x + (q + 1)) ≤ 2 * (y + 1) * (2 * (y + 1)) := Nat.mul_le_mul h1 h1
 have h3 : 4 * (x * (q + 1)) ≤ (x + (q + 1)) * (x + (q + 1)) := by
  rcases Nat.le_total x (q + 1) with c | c
  · obtain ⟨d, e⟩ := Nat.exists_eq_add_of_le c
    rw [e]; have := Nat.zero_le (d * d); grind
  · obtain ⟨d, e⟩ := Nat.exists_eq_add_of_le c
    rw [e]; have := Nat.zero_le (d * d); grind
 have h4 : 2 * (y + 1) * (2 * (y + 1)) = 4 * ((y + 1) * (y + 1)) := by grind
 omega
def I07 (k a : Nat) : Prop := k * k ≤ a ∧ a < (k + 1) * (k + 1)
theorem I07.unique {k j a : Nat} (h : I07 k a) (g : I07 j a) : k = j := by
 have key : ∀ {k j : Nat}, I07 k a → I07 j a → ¬ k < j := by
  intro k j h g c
  have := Nat.mul_le_mul (show k + 1 ≤ j by omega) (show k + 1 ≤ j by omega)
  have h2 := h.2; have g1 := g.1
  omega
 have := key h g; have := key g h
 omega
theorem C0l (k : Nat) : I07 k (k * k) := by
 have : (k + 1) * (k + 1) = k * k + (2 * k + 1) := by grind
 exact ⟨Nat.le_refl _, by omega⟩
theorem s0v (n : Nat) : n ≤ n * n := by
 rcases Nat.eq_zero_or_pos n with e | e
 · omega
 · exact Nat.le_mul_of_pos_left _ e
theorem I07.le {k a : Nat} (h : I07 k a) : k ≤ a := Nat.le_trans (s0v k) h.1
theorem re_B (q : Rat) : (⟨q, 0⟩ : Cq).B = 0 := by
 have r := (⟨q, 0⟩ : Cq).canon.rep
 have e : (0 : Rat) = ((⟨q, 0⟩ : Cq).B : Rat) / ((⟨q, 0⟩ : Cq).D : Rat) := r.im
 have := Rat.div_mul_cancel (a := ((⟨q, 0⟩ : Cq).B : Rat)) (W00 r.pos)
 rw [← e, Rat.zero_mul] at this
 exact_mod_cast this.symm
theorem B0u {p : Rat} : (⟨p * p, 0⟩ : Cq).A = (⟨p, 0⟩ : Cq).A * (⟨p, 0⟩ : Cq).A ∧ (⟨p * p, 0⟩ : Cq).D = (⟨p, 0⟩ : Cq).D * (⟨p, 0⟩ : Cq).D := by
 obtain ⟨A, hA⟩ : ∃ A, A = (⟨p, 0⟩ : Cq).A := ⟨_, rfl⟩
 obtain ⟨D, hD⟩ : ∃ D, D = (⟨p, 0⟩ : Cq).D := ⟨_, rfl⟩
 have c := (⟨p, 0⟩ : Cq).canon
 have b0 : (⟨p, 0⟩ : Cq).B = 0 := re_B _
 rw [b0, ← hA, ← hD] at c
 have g : Nat.gcd A.natAbs D = 1 := by have := c.cop; simpa using this
 have cop : Nat.Coprime A.natAbs D := g
 have r : Rep (⟨p * p, 0⟩ : Cq) (A * A) 0 (D * D) := by
  have := c.rep.mul c.rep
  have e : (⟨p, 0⟩ : Cq) * ⟨p, 0⟩ = ⟨p * p, 0⟩ := Cq.ext' (by rw [J06]; grind) (by rw [K06]; grind)
  rw [e] at this
  have e1 : A * A - 0 * 0 = A * A := by omega
  have e2 : A * 0 + 0 * A = 0 := by omega
  rwa [e1, e2] at this
 have k : y0b (⟨p * p, 0⟩ : Cq) (A * A) 0 (D * D) := by
  refine ⟨r, ?_⟩
  rw [Int.natAbs_zero, Nat.gcd_zero_right, Int.natAbs_mul]
  exact Nat.Coprime.mul_left (Nat.Coprime.mul_right cop cop) (Nat.Coprime.mul_right cop cop)
 obtain ⟨e1, _, e3⟩ := k.eqs
 rw [← hA, ← hD]; exact ⟨e1, e3⟩
theorem A0w {q : Rat} {K : Nat} (h : (⟨q, 0⟩ : Cq).sz ≤ K) (h0 : 0 < q) : 1 ≤ q * ((2 ^ K : Nat) : Rat) := by
 have r := (⟨q, 0⟩ : Cq).canon.rep
 have d := Nat.le_of_lt (Z07 (Nat.le_trans (Cq.szD (⟨q, 0⟩ : Cq)) h))
 have r1 := r.re
 have dp : (0 : Rat) < ((⟨q, 0⟩ : Cq).D : Rat) := by have := r.pos; exact_mod_cast (by omega : 0 < (⟨q, 0⟩ : Cq).D)
 have e : q * ((⟨q, 0⟩ : Cq).D : Rat) = ((⟨q, 0⟩ : Cq).A : Rat) := by
  have r1 : q = ((⟨q, 0⟩ : Cq).A : Rat) / ((⟨q, 0⟩ : Cq).D : Rat) := r1
  have := Rat.div_mul_cancel (a := ((⟨q, 0⟩ : Cq).A : Rat)) (W00 r.pos)
  rw [← r1] at this; exact this
 have p : (0 : Rat) < ((⟨q, 0⟩ : Cq).A : Rat) := by rw [← e]; exact Rat.mul_pos h0 dp
 have p1 : (1 : Rat) ≤ ((⟨q, 0⟩ : Cq).A : Rat) := by
  have : 0 < (⟨q, 0⟩ : Cq).A := by exact_mod_cast p
  exact_mod_cast (by omega : 1 ≤ (⟨q, 0⟩ : Cq).A)
 have m := Rat.mul_le_mul_of_nonneg_left (show ((⟨q, 0⟩ : Cq).D : Rat) ≤ ((2 ^ K : Nat) : Rat) by exact_mod_cast d) (Rat.le_of_lt h0)
 grind
theorem t0v {q : Rat} {K : Nat} (h : (⟨q, 0⟩ : Cq).sz ≤ K) : q ≤ ((2 ^ K : Nat) : Rat) := by
 have r := (⟨q, 0⟩ : Cq).canon.rep
 have a := Z07 (Nat.le_trans (Cq.szA (⟨q, 0⟩ : Cq)) h)
 have r1 : q = ((⟨q, 0⟩ : Cq).A : Rat) / ((⟨q, 0⟩ : Cq).D : Rat) := r.re
 have dp : (1 : Rat) ≤ ((⟨q, 0⟩ : Cq).D : Rat) := by have := r.pos; exact_mod_cast (by omega : 1 ≤ (⟨q, 0⟩ : Cq).D)
 have e : q * ((⟨q, 0⟩ : Cq).D : Rat) = ((⟨q, 0⟩ : Cq).A : Rat) := by
  have := Rat.div_mul_cancel (a := ((⟨q, 0⟩ : Cq).A : Rat)) (W00 r.pos)
  rw [← r1] at this; exact this
 have ub : ((⟨q, 0⟩ : Cq).A : Rat) ≤ ((2 ^ K : Nat) : Rat) := by
  have : (⟨q, 0⟩ : Cq).A ≤ ((2 ^ K : Nat) : Int) := by omega
  exact_mod_cast this
 by_cases c : 0 ≤ q
 · have := Rat.mul_le_mul_of_nonneg_left dp c; grind
 · have : (0 : Rat) ≤ ((2 ^ K : Nat) : Rat) := by exact_mod_cast Nat.zero_le _
   grind
theorem small {a b u : Rat} {S K : Nat} (ha : (⟨a, 0⟩ : Cq).sz ≤ S) (hb : (⟨b, 0⟩ : Cq).sz ≤ S) (b0 : 0 < b) (hK : 2 * S ≤ K) (u0 : 0 ≤ u) (hu : u * ((2 ^ K : Nat) : Rat) = 1) : u * a ≤ b := by
 have h1 := t0v ha
 have h2 := A0w hb b0
 have e : ((2 ^ S : Nat) : Rat) * ((2 ^ S : Nat) : Rat) ≤ ((2 ^ K : Nat) : Rat) := by
  have : 2 ^ S * 2 ^ S ≤ 2 ^ K := by rw [← Nat.pow_add]; exact Nat.pow_le_pow_right (by omega) (by omega)
  exact_mod_cast this
 have p : (0 : Rat) < ((2 ^ S : Nat) : Rat) := by exact_mod_cast Nat.pow_pos (by omega)
 have k1 := Rat.mul_le_mul_of_nonneg_left h1 u0
 have k2 := Rat.mul_le_mul_of_nonneg_left e u0
 -- u 2^S 2^S ≤ 1 ≤ b 2^S
 refine Rat.le_trans k1 ?_
 refine Rat.not_lt.1 fun g => ?_
 have := Rat.mul_lt_mul_of_pos_right g p
 grind
theorem g0n {q z : Rat} (hz : z * z = q) {S : Nat} (h : (⟨q, 0⟩ : Cq).sz ≤ S) : (⟨z, 0⟩ : Cq).sz ≤ S := by
 subst hz
 obtain ⟨e1, e2⟩ := B0u (p := z)
 refine Nat.le_trans ?_ h
 have b0 : (⟨z, 0⟩ : Cq).B = 0 := re_B _
 have b1 : (⟨z * z, 0⟩ : Cq).B = 0 := re_B _
 unfold Cq.sz
 rw [e1, e2, b0, b1, Int.natAbs_mul]
 have := C06 (s0v (⟨z, 0⟩ : Cq).A.natAbs)
 have := C06 (s0v (⟨z, 0⟩ : Cq).D)
 omega

theorem n0q {x n z v : Rat} (z0 : 0 ≤ z) (zn : z * z = n) (hv : v * 2 = z + x) (q : Rat) : rtP x n q ↔ q * q ≤ v := by
 unfold rtP
 constructor
 · rintro (g | g)
   · unfold rtD at g; grind
   · have g : rtD x q * rtD x q ≤ z * z := by rw [zn]; exact g
     have := m06 z0 g
     unfold rtD at this; grind
 · intro g
   by_cases d : rtD x q < 0
   · exact .inl d
   · refine .inr ?_
     rw [← zn]
     exact B04 (by grind) (by unfold rtD; grind)
theorem K0e {x n z v : Rat} (z0 : 0 ≤ z) (zn : z * z = n) (hv : v * 2 = z + x) (q : Rat) : rtC x n q = 0 ↔ q * q = v := by
 rw [E09]
 constructor
 · rintro ⟨g1, g2⟩
   have a := m06 z0 (show rtD x q * rtD x q ≤ z * z by grind)
   have b := m06 g1 (show z * z ≤ rtD x q * rtD x q by grind)
   unfold rtD at a b; grind
 · intro g
   have : rtD x q = z := by unfold rtD; grind
   rw [this]; exact ⟨z0, zn⟩
theorem u0v {x n a v lo : Rat} (xn : x * x ≤ n) (a0 : 0 ≤ a) (an : a * a ≤ n) (hv : v * 2 = a + x ∨ (v = 0 ∧ a + x < 0)) (h1 : lo * lo ≤ v) : rtP x n lo := by
 unfold rtP
 by_cases d : rtD x lo < 0
 · exact .inl d
 refine .inr ?_
 rcases hv with hv | ⟨hv, hx⟩
 · have := B04 (a := rtD x lo) (b := a) (by grind) (by unfold rtD; grind)
   grind
 · have l0 := w00 lo
   have e : rtD x lo = -x := by unfold rtD; grind
   rw [e]; grind
theorem w0v {x n s w hi : Rat} (s0 : 0 ≤ s) (sn : n < s * s) (hw : w * 2 = s + x) (h1 : w < hi * hi) : ¬ rtP x n hi := by
 have d : s < rtD x hi := by unfold rtD; grind
 have e := d0n s0 d
 rintro (g | g)
 · grind
 · grind
theorem Q0t {x y M : Rat} (hM : 2 ≤ M) (x0 : -M ≤ x) (x1 : x ≤ M) (y0 : -M ≤ y) (y1 : y ≤ M) : ¬ rtP x (x * x + y * y) M := by
 have d : 3 * M ≤ rtD x M := by
  have := Rat.mul_le_mul_of_nonneg_left hM (show 0 ≤ M by grind)
  unfold rtD; grind
 have xx : x * x ≤ M * M := by
  have := Rat.mul_nonneg (show 0 ≤ M - x by grind) (show 0 ≤ M + x by grind); grind
 have yy : y * y ≤ M * M := by
  have := Rat.mul_nonneg (show 0 ≤ M - y by grind) (show 0 ≤ M + y by grind); grind
 have e := B04 (show 0 ≤ 3 * M by grind) d
 have p : 0 < M * M := Rat.mul_pos (by grind) (by grind)
 rintro (g | g)
 · grind
 · grind

-- a bound is not above another one
def Eb.Le (a b : Eb) : Prop := ¬ Eb.LT b a
theorem Eb.Le.trans {a b c : Eb} (h : a.Le b) (k : b.Le c) : a.Le c := fun g => by
 rcases Eb.LT.weak (b := b) g with p | p
 · exact k p
 · exact h p
theorem Eb.Le.refl (a : Eb) : a.Le a := Eb.LT.irrefl
theorem B0w {a b : Rat} : Eb.Le ⟨0, a⟩ ⟨0, b⟩ ↔ a ≤ b := by unfold Eb.Le; rw [S08]; exact ⟨fun h => Rat.not_lt.1 h, fun h => Rat.not_lt.2 h⟩
theorem S0t {a : Eb} (_ : a.ok) (x : Rat) : Eb.Le ⟨-1, x⟩ a := by
 rcases D04 ‹a.ok› with h | h | h
 · rintro (g | ⟨_, g, _⟩)
   · have : a.inf < -1 := g; omega
   · exact absurd g (by show ¬ (-1 : Int) = 0; decide)
 · rintro (g | ⟨_, g, _⟩)
   · have : a.inf < -1 := g; omega
   · exact absurd g (by show ¬ (-1 : Int) = 0; decide)
 · rintro (g | ⟨_, g, _⟩)
   · have : a.inf < -1 := g; omega
   · exact absurd g (by show ¬ (-1 : Int) = 0; decide)
theorem x0v {a : Eb} (_ : a.ok) (x : Rat) : Eb.Le a ⟨1, x⟩ := by
 rintro (g | ⟨g, _, _⟩)
 · have g : (1 : Int) < a.inf := g
   rcases D04 ‹a.ok› with h | h | h <;> omega
 · exact absurd g (by show ¬ (1 : Int) = 0; decide)
theorem C0u {e : Eb} (h : e.inf = 0) : e = ⟨0, e.x⟩ := by cases e; dsimp only at h; rw [h]
theorem T0t : endE (-(infR : Int)) = ⟨-1, 0⟩ := by unfold endE; rw [if_neg (by decide), if_pos rfl]
-- numbers about roots
theorem f0o {x y q : Rat} (hq : 0 ≤ q) (h : rtP x (x * x + y * y) q) : (q * q * 2) * (q * q * 2) - 2 * (q * q * 2) * x ≤ y * y := by
 have q0 : 0 ≤ q * q := Rat.mul_nonneg hq hq
 rcases h with h | h
 · unfold rtD at h
   have a : 0 ≤ q * q * 2 * (x - q * q * 2) := Rat.mul_nonneg (by grind) (by grind)
   have b : 0 ≤ q * q * 2 * (q * q * 2) := w00 _
   have c := w00 y
   grind
 · unfold rtD at h; grind
theorem i00.low {e f : Eb} {k : Nat} (h : i00 e f false k) (hk : k < infR) : e.inf ≤ 0 ∧ f.inf = 0 ∧ (e.inf < 0 → k = 0) ∧ (e.inf = 0 → rtP e.x (e.x * e.x + f.x * f.x) (fkq (k : Int))) := by
 unfold i00 at h
 by_cases c : 0 < e.inf ∨ f.inf ≠ 0
 · rw [if_pos c] at h; omega
 · rw [if_neg c] at h
   refine ⟨by omega, by omega, fun g => ?_, fun g => ?_⟩
   · rw [if_pos g] at h; exact h
   · rw [if_neg (by omega)] at h
     obtain ⟨r, h1, h2⟩ := h
     rw [if_neg (fun g => by exact absurd g.1 (by decide))] at h2
     rw [h2]; exact h1.le
theorem i00.high {e f : Eb} {k : Nat} (h : i00 e f true k) (hk : k < infR) : e.inf ≤ 0 ∧ f.inf = 0 ∧ (e.inf < 0 → k = 0) ∧ (e.inf = 0 → 0 ≤ rtD e.x (fkq (k : Int)) ∧ e.x * e.x + f.x * f.x ≤ rtD e.x (fkq (k : Int)) * rtD e.x (fkq (k : Int))) := by
 unfold i00 at h
 by_cases c : 0 < e.inf ∨ f.inf ≠ 0
 · rw [if_pos c] at h; omega
 · rw [if_neg c] at h
   refine ⟨by omega, by omega, fun g => ?_, fun g => ?_⟩
   · rw [if_pos g] at h; exact h
   · rw [if_neg (by omega)] at h
     obtain ⟨r, h1, h2⟩ := h
     by_cases d : rtC e.x (e.x * e.x + f.x * f.x) (fkq (r : Int)) = 0
     · rw [if_neg (fun g => g.2 d)] at h2
       rw [h2]
       obtain ⟨a, b⟩ := E09.1 d
       exact ⟨a, by rw [b]; exact Rat.le_refl⟩
     · rw [if_pos ⟨rfl, d⟩] at h2
       rw [h2]
       rcases h1.next with n | n
       · omega
       · unfold rtP at n
         have a : ¬ rtD e.x (fkq ((r + 1 : Nat) : Int)) < 0 := fun g => n (.inl g)
         have b : ¬ rtD e.x (fkq ((r + 1 : Nat) : Int)) * rtD e.x (fkq ((r + 1 : Nat) : Int)) ≤ e.x * e.x + f.x * f.x := fun g => n (.inr g)
         exact ⟨Rat.not_lt.1 a, Rat.le_of_lt (Rat.not_le.1 b)⟩
theorem i00.inf {e f : Eb} {up : Bool} {k : Nat} (h : i00 e f up k) (hk : 0 < e.inf ∨ f.inf ≠ 0) : k = infR := by unfold i00 at h; rw [if_pos hk] at h; exact h
theorem i00.low_fin {e f : Eb} {k : Nat} (h : i00 e f false k) (h1 : e.inf ≤ 0) (h2 : f.inf = 0) : k < infR := by
 unfold i00 at h
 rw [if_neg (by omega)] at h
 split at h
 · rw [h]; decide
 · obtain ⟨r, a, b⟩ := h
   rw [if_neg (fun g => by exact absurd g.1 (by decide))] at b
   rw [b]; exact a.lt
-- the parts of what is proper
theorem D0u {s : Sk} (p : s.proper) : (endE s.lo).inf = 0 ∨ endE s.lo = ⟨-1, 0⟩ := by
 by_cases c : (endE s.lo).inf = 0
 · exact .inl c
 · exact .inr (K0i p.2.1 c)
theorem E0u {s : Sk} (p : s.proper) : (endE s.hi).inf = 0 ∨ endE s.hi = ⟨1, 0⟩ := by
 by_cases c : (endE s.hi).inf = 0
 · exact .inl c
 · exact .inr (L0i p.2.2 c)
theorem U0t {a : Eb} (h : a.inf = 0) : a.abs.inf = 0 ∧ 0 ≤ a.abs.x ∧ a.abs.x * a.abs.x = a.x * a.x := by
 rw [q0v h]
 refine ⟨rfl, ?_, ?_⟩
 · show (0 : Rat) ≤ (if a.x < 0 then -a.x else a.x); split <;> grind
 · show (if a.x < 0 then -a.x else a.x) * (if a.x < 0 then -a.x else a.x) = _; split <;> grind
theorem I0d {a b : Eb} (ha : a.inf = 0) (hb : b.inf = 0) (h : Eb.Le a b) : a.x ≤ b.x := by
 rw [C0u ha, C0u hb, B0w] at h; exact h
structure U0w (s : Sk) : Prop where
 lo0 : s.set.size.lo.inf = 0
 pos : 0 ≤ s.lo → s.set.size.lo = endE s.lo
 neg : s.hi < 0 → s.set.size.lo = (endE s.hi).neg
 hi1 : s.set.size.hi.inf = 0 → (endE s.lo).inf = 0 ∧ (endE s.lo).x * (endE s.lo).x ≤ s.set.size.hi.x * s.set.size.hi.x
 hi2 : s.set.size.hi.inf = 0 → (endE s.hi).inf = 0 ∧ (endE s.hi).x * (endE s.hi).x ≤ s.set.size.hi.x * s.set.size.hi.x
 lo1 : (endE s.lo).inf = 0 → s.set.size.lo.x * s.set.size.lo.x ≤ (endE s.lo).x * (endE s.lo).x
 lo2 : (endE s.hi).inf = 0 → s.set.size.lo.x * s.set.size.lo.x ≤ (endE s.hi).x * (endE s.hi).x
theorem W0t {s : Sk} (h : s.ok) (p : s.proper) : U0w s := by
 have zq := I0e h
 have p1 := p.1
 have a1 := A0u (g07 s.lo); have a2 := A0u (g07 s.hi)
 have abp : ∀ {k : Int}, inK k → 0 ≤ k → (endE k).abs = endE k := by
  intro k hk h0
  unfold Eb.abs; rw [H07 hk, if_neg]; unfold cmpZ; split
  · omega
  · split <;> decide
 have abn : ∀ {k : Int}, inK k → k < 0 → (endE k).abs = (endE k).neg := by
  intro k hk h0
  unfold Eb.abs; rw [H07 hk, if_pos]; rw [J0a h0]; decide
 have eH : s.set.size.hi = Eb.pick 1 [(endE s.lo).abs, (endE s.hi).abs] := by unfold Es.size; split <;> rfl
 have hiF : ∀ {e}, e ∈ [(endE s.lo).abs, (endE s.hi).abs] → Eb.Le e s.set.size.hi := by
  intro e he; rw [eH]; exact Eb.pick_first (way := 1) (.inl rfl) e he
 have hik : ∀ {k : Int}, (endE k).abs ∈ [(endE s.lo).abs, (endE s.hi).abs] → s.set.size.hi.inf = 0 → (endE k).inf = 0 ∧ (endE k).x * (endE k).x ≤ s.set.size.hi.x * s.set.size.hi.x := by
  intro k hk h0
  have hl := hiF hk
  have fin : (endE k).inf = 0 := by
   refine Classical.byContradiction fun c => ?_
   rw [e0n c (g07 k)] at hl
   exact hl (.inl (by show s.set.size.hi.inf < 1; omega))
  obtain ⟨b1, b2, b3⟩ := U0t fin
  have := B04 b2 (I0d b1 h0 hl)
  exact ⟨fin, by rw [b3] at this; exact this⟩
 by_cases z : s.set.zero = true
 · have eL : s.set.size.lo = Eb.fin 0 := by unfold Es.size; rw [if_pos z]
   rw [zq, Bool.and_eq_true, decide_eq_true_iff, decide_eq_true_iff] at z
   refine ⟨by rw [eL]; rfl, fun g => ?_, fun g => by omega, hik (by simp), hik (by simp), fun _ => ?_, fun _ => ?_⟩
   · rw [eL, show s.lo = 0 by omega, G07]
   · rw [eL]; show (0 : Rat) * 0 ≤ _; have := w00 (endE s.lo).x; grind
   · rw [eL]; show (0 : Rat) * 0 ≤ _; have := w00 (endE s.hi).x; grind
 · have eL : s.set.size.lo = Eb.pick (-1) [(endE s.lo).abs, (endE s.hi).abs] := by unfold Es.size; rw [if_neg z]; rfl
   have hl2 : 0 < s.lo ∨ s.hi < 0 := by
    refine Classical.byContradiction fun c => z ?_
    rw [zq, Bool.and_eq_true, decide_eq_true_iff, decide_eq_true_iff]; omega
   have pos : 0 ≤ s.lo → s.set.size.lo = endE s.lo := by
    intro g
    rw [eL, abp h.lo g, abp h.hi (by omega)]
    show (if (endE s.hi).cmp (endE s.lo) = -1 then endE s.hi else endE s.lo) = _
    rw [if_neg]
    intro c
    have := Eb.cmp_neg1.1 c
    rcases Int.lt_or_eq_of_le p1 with q | q
    · exact Eb.LT.irrefl (this.trans (F06 h.lo h.hi q))
    · rw [q] at this; exact Eb.LT.irrefl this
   have neg : s.hi < 0 → s.set.size.lo = (endE s.hi).neg := by
    intro g
    rw [eL, abn h.lo (by omega), abn h.hi g]
    show (if (endE s.hi).neg.cmp (endE s.lo).neg = -1 then (endE s.hi).neg else (endE s.lo).neg) = _
    rcases Int.lt_or_eq_of_le p1 with q | q
    · rw [if_pos]; rw [Eb.cmp_neg1, Eb.LT_neg]; exact F06 h.lo h.hi q
    · rw [q]; split <;> rfl
   have lo0 : s.set.size.lo.inf = 0 := by
    rcases hl2 with g | g
    · rw [pos (by omega)]
      rcases D0u p with q | q
      · exact q
      · have := F06 (k := 0) (l := s.lo) i07 h.lo g
        rw [G07, q] at this
        exact absurd this (S0t (Eb.fin_ok 0) 0)
    · rw [neg g]
      rcases E0u p with q | q
      · show -(endE s.hi).inf = 0; omega
      · have := F06 (k := s.hi) (l := 0) h.hi i07 g
        rw [G07, q] at this
        exact absurd this (x0v (Eb.fin_ok 0) 0)
   have nn : 0 ≤ s.set.size.lo.x := by
    have m := Eb.pick_in (way := -1) (es := [(endE s.lo).abs, (endE s.hi).abs]) (by simp)
    rw [← eL] at m
    simp only [List.mem_cons, List.not_mem_nil, or_false] at m
    rcases m with m | m
    · by_cases c : (endE s.lo).inf = 0
      · rw [m]; exact (U0t c).2.1
      · rw [m, e0n c (g07 _)]; exact Rat.le_refl
    · by_cases c : (endE s.hi).inf = 0
      · rw [m]; exact (U0t c).2.1
      · rw [m, e0n c (g07 _)]; exact Rat.le_refl
   have lok : ∀ {k : Int}, (endE k).abs ∈ [(endE s.lo).abs, (endE s.hi).abs] → (endE k).inf = 0 → s.set.size.lo.x * s.set.size.lo.x ≤ (endE k).x * (endE k).x := by
    intro k hk c
    obtain ⟨b1, b2, b3⟩ := U0t c
    have hl : Eb.Le s.set.size.lo (endE k).abs := by rw [eL]; exact Eb.pick_first (way := -1) (.inr rfl) _ hk
    have := B04 nn (I0d lo0 b1 hl)
    rw [b3] at this; exact this
   exact ⟨lo0, pos, neg, hik (by simp), hik (by simp), lok (by simp), lok (by simp)⟩

theorem i0n {x y q : Rat} (h : (q * q * 2) * (q * q * 2) - 2 * (q * q * 2) * x ≤ y * y) : rtP x (x * x + y * y) q := by
 by_cases d : rtD x q < 0
 · exact .inl d
 · refine .inr ?_
   unfold rtD; grind
theorem k0s {x y x' y' q : Rat} (hq : 0 ≤ q) (hx : x ≤ x') (hy : y * y ≤ y' * y') (h : rtP x (x * x + y * y) q) : rtP x' (x' * x' + y' * y') q := by
 have a := f0o hq h
 refine i0n ?_
 have b := Rat.mul_le_mul_of_nonneg_left hx (show 0 ≤ 2 * (q * q * 2) by have := w00 q; grind)
 grind
theorem l0s {x y x' y' q : Rat} (hq : 0 ≤ q) (hx : x ≤ x') (hy : y * y ≤ y' * y') (h : rtP x (x * x + y * y) q) (g : rtC x' (x' * x' + y' * y') q = 0) : rtC x (x * x + y * y) q = 0 := by
 have a := f0o hq h
 obtain ⟨g1, g2⟩ := E09.1 g
 have b := Rat.mul_le_mul_of_nonneg_left hx (show 0 ≤ 2 * (q * q * 2) by have := w00 q; grind)
 refine E09.2 ⟨by unfold rtD at g1 ⊢; grind, ?_⟩
 unfold rtD at g2 ⊢
 grind
theorem i00.mono {e f e' f' : Eb} {u u' : Bool} {k l : Nat} (h : i00 e f u k) (g : i00 e' f' u' l) (he : Eb.Le e e') (hf : f'.inf = 0 → f.inf = 0 ∧ f.x * f.x ≤ f'.x * f'.x) (hu : u = true → u' = true) : k ≤ l := by
 have kl := h.le
 unfold i00 at h g
 by_cases c : 0 < e'.inf ∨ f'.inf ≠ 0
 · rw [if_pos c] at g; omega
 rw [if_neg c] at g
 obtain ⟨f0, fx⟩ := hf (by omega)
 have ei : e.inf ≤ e'.inf := by
  refine Int.not_lt.1 fun q => he (.inl q)
 rw [if_neg (by omega)] at h
 by_cases d : e.inf < 0
 · rw [if_pos d] at h; omega
 rw [if_neg d] at h
 rw [if_neg (by omega)] at g
 obtain ⟨r, h1, h2⟩ := h
 obtain ⟨s, g1, g2⟩ := g
 have ex : e.x ≤ e'.x := I0d (by omega) (by omega) he
 have rs : r ≤ s := by
  refine Nat.not_lt.1 fun q => ?_
  rcases g1.next with n | n
  · have := h1.lt; omega
  · exact n (k0s (T02 _) ex fx (N0i _ _ _ _ (T02 _) (Q0c (by omega)) h1.le))
 by_cases q : r = s
 · subst q
   by_cases z : u = true ∧ rtC e.x (e.x * e.x + f.x * f.x) (fkq (r : Int)) ≠ 0
   · rw [if_pos z] at h2
     rw [if_pos ⟨hu z.1, fun w => z.2 (l0s (T02 _) ex fx h1.le w)⟩] at g2
     omega
   · rw [if_neg z] at h2
     split at g2 <;> omega
 · split at h2 <;> split at g2 <;> omega
def UpB (x y : Sk) (t : Bk) : Prop := ∃ k1 k2 k3 k4 : Nat, t = ⟨⟨(k1 : Int), (k2 : Int)⟩, ⟨(k3 : Int), (k4 : Int)⟩⟩ ∧ i00 (endE x.lo) (endE y.lo) false k1 ∧ i00 (endE x.hi) (endE y.hi) true k2 ∧ i00 (endE x.hi).neg (endE y.lo) false k3 ∧ i00 (endE x.lo).neg (endE y.hi) true k4
theorem L0e {k l : Int} (hk : inK k) (hl : inK l) (h : k ≤ l) : Eb.Le (endE k) (endE l) := by
 rcases Int.lt_or_eq_of_le h with q | q
 · intro g; exact Eb.LT.irrefl (g.trans (F06 hk hl q))
 · rw [q]; exact Eb.Le.refl _
theorem X0t {k l : Int} (hk : inK k) (hl : inK l) (h : k ≤ l) : Eb.Le (endE l).neg (endE k).neg := by
 rw [← Z03, ← Z03]; exact L0e (T08 hl) (T08 hk) (by omega)
theorem y0v {y : Sk} (p : y.proper) (h0 : 0 ≤ y.lo) : (endE y.lo).inf = 0 ∧ 0 ≤ (endE y.lo).x := by
 obtain ⟨p1, p2, p3⟩ := p
 have e : endE y.lo = ⟨0, fkq y.lo⟩ := by unfold endE; rw [if_neg p2, if_neg (by omega)]
 rw [e]; exact ⟨rfl, by have := Q0c h0; rw [b08] at this; exact this⟩
theorem y_le {y : Sk} (h : y.ok) (p : y.proper) (h0 : 0 ≤ y.lo) (hi : (endE y.hi).inf = 0) : (endE y.lo).inf = 0 ∧ (endE y.lo).x * (endE y.lo).x ≤ (endE y.hi).x * (endE y.hi).x := by
 obtain ⟨a, b⟩ := y0v p h0
 exact ⟨a, B04 b (I0d a hi (L0e h.lo h.hi p.1))⟩
theorem F0u {x : Sk} (p : x.proper) : (endE x.lo).inf ≤ 0 ∧ (endE x.hi).neg.inf ≤ 0 := by
 constructor
 · rcases D0u p with q | q
   · omega
   · rw [q]; decide
 · rcases E0u p with q | q
   · show -(endE x.hi).inf ≤ 0; omega
   · rw [q]; decide
theorem UpB.proper {x y : Sk} {t : Bk} (h : UpB x y t) (hx : x.ok) (px : x.proper) (hy : y.ok) (py : y.proper) (h0 : 0 ≤ y.lo) : t.ok ∧ t.proper := by
 obtain ⟨k1, k2, k3, k4, rfl, r1, r2, r3, r4⟩ := h
 have i := F0u px
 have f := y0v py h0
 have l1 := r1.low_fin i.1 f.1
 have l3 := r3.low_fin i.2 f.1
 have m1 := r1.mono r2 (L0e hx.lo hx.hi px.1) (y_le hy py h0) (fun g => absurd g (by decide))
 have m2 := r3.mono r4 (X0t hx.lo hx.hi px.1) (y_le hy py h0) (fun g => absurd g (by decide))
 have ip : 0 < infR := by decide
 refine ⟨⟨⟨p03 r1.le, p03 r2.le⟩, ⟨p03 r3.le, p03 r4.le⟩⟩, ⟨?_, ?_, ?_⟩, ⟨?_, ?_, ?_⟩⟩
 · show (k1 : Int) ≤ k2; omega
 · show (k1 : Int) ≠ infR; omega
 · show (k2 : Int) ≠ -(infR : Int); omega
 · show (k3 : Int) ≤ k4; omega
 · show (k3 : Int) ≠ infR; omega
 · show (k4 : Int) ≠ -(infR : Int); omega
theorem j0n {k : Int} (hk : inK k) (h0 : 0 ≤ k) : (endE k).abs = endE k := by
 unfold Eb.abs; rw [H07 hk, if_neg]; unfold cmpZ; split
 · omega
 · split <;> decide
theorem k0n {k : Int} (hk : inK k) (h0 : k < 0) : (endE k).abs = endE (-k) := by
 unfold Eb.abs; rw [H07 hk, if_pos, Z03]; rw [J0a h0]; decide
theorem l0n (s : Sk) : s.set.size.hi = (endE s.lo).abs ∨ s.set.size.hi = (endE s.hi).abs := by
 have eH : s.set.size.hi = Eb.pick 1 [(endE s.lo).abs, (endE s.hi).abs] := by unfold Es.size; split <;> rfl
 have m := Eb.pick_in (way := 1) (es := [(endE s.lo).abs, (endE s.hi).abs]) (by simp)
 rw [← eH] at m
 simpa using m
theorem z0v {b t : Bk} (hb : b.ok) (pb : b.proper) (h0 : 0 ≤ b.im.lo) (h : UpB b.re b.im t) : J0e b t := by
 obtain ⟨k1, k2, k3, k4, rfl, r1, r2, r3, r4⟩ := h
 have sz := W0t hb.im pb.2
 have p1 := pb.2.1
 have eL := sz.pos h0
 have hH : i00 b.re.set.hi b.im.set.size.hi true k2 := by
  have eA : i00 b.re.set.hi (endE b.im.hi) true k2 := r2
  rcases l0n b.im with e | e
  · -- the lower end is then as far off as the upper
    rw [j0n hb.im.lo h0] at e
    have q : ∃ l, i00 b.re.set.hi b.im.set.size.hi true l := by
     unfold i00
     split
     · exact ⟨_, rfl⟩
     · split
       · exact ⟨_, rfl⟩
       · obtain ⟨r, hr⟩ := c07 (P := rtP b.re.set.hi.x (b.re.set.hi.x * b.re.set.hi.x + b.im.set.size.hi.x * b.im.set.size.hi.x)) (H0d (j0s _ _))
         exact ⟨_, r, hr, rfl⟩
    obtain ⟨l, hl⟩ := q
    have a := eA.mono hl (Eb.Le.refl _) sz.hi2 (fun g => g)
    have hl' := hl
    rw [e] at hl'
    have b' := hl'.mono eA (Eb.Le.refl _) (y_le hb.im pb.2 h0) (fun g => g)
    have : k2 = l := by omega
    rw [this]; exact hl
  · rw [j0n hb.im.hi (by omega)] at e; rw [e]; exact eA
 refine ⟨⟨k1, rfl, by rw [eL]; exact r1⟩, ⟨k2, rfl, hH⟩, ⟨k3, fun g => by omega, fun _ => ⟨rfl, r3⟩⟩, ⟨k4, fun g => by omega, fun _ => ⟨rfl, r4⟩⟩⟩
theorem m0s (e : Eb) : e.neg.inf = -e.inf ∧ e.neg.x * e.neg.x = e.x * e.x := ⟨rfl, by show -e.x * -e.x = _; grind⟩
theorem C0w {s : Sk} (h : s.ok) (p : s.proper) (hh : s.hi < 0) : s.set.size.hi.inf = 0 → (endE (-s.lo)).inf = 0 ∧ (endE (-s.lo)).x * (endE (-s.lo)).x ≤ s.set.size.hi.x * s.set.size.hi.x := by
 intro g
 obtain ⟨a, b⟩ := (W0t h p).hi1 g
 rw [Z03]; have := m0s (endE s.lo); exact ⟨by omega, by rw [this.2]; exact b⟩
theorem n0s (e f : Eb) (u : Bool) : ∃ l, i00 e f u l := by
 unfold i00
 split
 · exact ⟨_, rfl⟩
 · split
   · exact ⟨_, rfl⟩
   · obtain ⟨r, hr⟩ := c07 (P := rtP e.x (e.x * e.x + f.x * f.x)) (H0d (j0s _ _))
     exact ⟨_, r, hr, rfl⟩
theorem neg_neg (e : Eb) : e.neg.neg = e := by cases e; show Eb.mk (- -_) (- -_) = _; rw [Int.neg_neg, Rat.neg_neg]
theorem Y0t {b u : Bk} (hb : b.ok) (pb : b.proper) (h0 : b.im.hi < 0) (h : UpB b.re ⟨-b.im.hi, -b.im.lo⟩ u) : J0e b u.conj := by
 obtain ⟨k1, k2, k3, k4, rfl, r1, r2, r3, r4⟩ := h
 dsimp only at r1 r2 r3 r4
 have sz := W0t hb.im pb.2
 have p1 := pb.2.1
 have eL := sz.neg h0
 have ok' : (Sk.mk (-b.im.hi) (-b.im.lo)).ok := ⟨T08 hb.im.hi, T08 hb.im.lo⟩
 have pr' : (Sk.mk (-b.im.hi) (-b.im.lo)).proper := ⟨by show -b.im.hi ≤ -b.im.lo; omega, by show -b.im.hi ≠ _; have := pb.2.2.2; omega, by show -b.im.lo ≠ _; have := pb.2.2.1; omega⟩
 have hH : i00 b.re.set.hi b.im.set.size.hi true k2 := by
  rcases l0n b.im with e | e
  · rw [k0n hb.im.lo (by omega)] at e; rw [e]; exact r2
  · rw [k0n hb.im.hi h0] at e
    obtain ⟨l, hl⟩ := n0s b.re.set.hi b.im.set.size.hi true
    have a := r2.mono hl (Eb.Le.refl _) (C0w hb.im pb.2 h0) (fun g => g)
    have hl' := hl
    rw [e] at hl'
    have b' := hl'.mono r2 (Eb.Le.refl _) (y_le ok' pr' (by show 0 ≤ -b.im.hi; omega)) (fun g => g)
    have : k2 = l := by omega
    rw [this]; exact hl
 have ng : ∀ k : Int, endE (-k) = (endE k).neg := Z03
 rw [ng] at r1 r2 r3 r4
 refine ⟨⟨k1, rfl, by rw [eL]; exact r1⟩, ⟨k2, rfl, hH⟩, ⟨k4, fun _ => ⟨rfl, r4⟩, fun g => by omega⟩, ⟨k3, fun _ => ⟨rfl, r3⟩, fun g => by omega⟩⟩
theorem o0s {b u w : Bk} (hb : b.ok) (pb : b.proper) (h1 : b.im.lo < 0) (h2 : 0 ≤ b.im.hi) (h : UpB b.re ⟨0, -b.im.lo⟩ u) (g : UpB b.re ⟨0, b.im.hi⟩ w) : J0e b (u.conj.hull w) := by
 obtain ⟨k1, k2, k3, k4, rfl, r1, r2, r3, r4⟩ := h
 obtain ⟨l1, l2, l3, l4, rfl, s1, s2, s3, s4⟩ := g
 dsimp only at r1 r2 r3 r4 s1 s2 s3 s4
 have sz := W0t hb.im pb.2
 have e1 := r1.unique s1
 have e3 := r3.unique s3
 subst e1; subst e3
 have eL : b.im.set.size.lo = endE 0 := by
  have z : b.im.set.zero = true := by rw [I0e hb.im, Bool.and_eq_true, decide_eq_true_iff, decide_eq_true_iff]; omega
  unfold Es.size; rw [if_pos z, G07]
 have f1 : b.im.set.size.hi.inf = 0 → (endE (-b.im.lo)).inf = 0 ∧ (endE (-b.im.lo)).x * (endE (-b.im.lo)).x ≤ b.im.set.size.hi.x * b.im.set.size.hi.x := by
  intro g
  obtain ⟨a, c⟩ := sz.hi1 g
  rw [Z03]; have := m0s (endE b.im.lo); exact ⟨by omega, by rw [this.2]; exact c⟩
 have hH : i00 b.re.set.hi b.im.set.size.hi true (max k2 l2) := by
  obtain ⟨l, hl⟩ := n0s b.re.set.hi b.im.set.size.hi true
  have a := r2.mono hl (Eb.Le.refl _) f1 (fun g => g)
  have c := s2.mono hl (Eb.Le.refl _) sz.hi2 (fun g => g)
  have : max k2 l2 = l := by
   rcases l0n b.im with e | e
   · rw [k0n hb.im.lo h1] at e
     have hl' := hl; rw [e] at hl'
     have := hl'.unique r2; omega
   · rw [j0n hb.im.hi h2] at e
     have hl' := hl; rw [e] at hl'
     have := hl'.unique s2; omega
  rw [this]; exact hl
 have ng : ∀ k : Int, endE (-k) = (endE k).neg := Z03
 rw [ng] at r4
 refine ⟨⟨k1, ?_, by rw [eL]; exact r1⟩, ⟨max k2 l2, ?_, hH⟩, ⟨k4, fun _ => ⟨?_, r4⟩, fun g => by omega⟩, ⟨l4, fun g => by omega, fun _ => ⟨?_, s4⟩⟩⟩
 · show min (k1 : Int) (k1 : Int) = k1; omega
 · show max (k2 : Int) (l2 : Int) = ((max k2 l2 : Nat) : Int); omega
 · show min (-(k4 : Int)) (k3 : Int) = -(k4 : Int); omega
 · show max (-(k3 : Int)) (l4 : Int) = (l4 : Int); omega
