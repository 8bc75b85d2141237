/- Part of the proof; it has the parts VLift VNat VDiv VBit VDiv2 VQ VNum VList VFl VRd VBel VBd VSk VShr VAw VMir VLat VPts VSpl VNx VRt VSq VRt2 VSr VSqu VHm VSqv VIn1 VIn2 VIn3 VIn4. -/
import Derived.Test.YtkibfmnkkiakoaaGreatGRt1
import Derived.WalkKit
import Derived.ProofKit
import Derived.OpenShut
import Derived.IntWalk
import GoSem.Core.Float
namespace Go.Vc
open Go Go.ChangeShapes Go.RowKit
theorem CallV.plain {P : Program} {f : FuncId} {args : Array Value} {r : Value} (h : CallV P f args (fun _ => none) fun v _ => v = r) (w : World) :
 Calls P f args w fun e w' => e = .returned r ∧ Below w.heap.size w w' :=
 (h w (fun b cs hb => by simp at hb)).mono fun _ _ ⟨_, _, he, _, _, _, hb, hr⟩ => ⟨by rw [he, hr], hb⟩
end Go.Vc
namespace Go.Vc
open Go Go.RowKit
def wval : List Nat → Nat
 | [] => 0
 | d :: l => d + 4294967296 * wval l
def dig (n : Nat) : List Nat := if h : n = 0 then [] else n % 4294967296 :: dig (n / 4294967296)
termination_by n
decreasing_by omega
def WB (l : List Nat) : Prop := ∀ d ∈ l, d < 4294967296
def wv (l : List Nat) : List Value := l.map fun (d : Nat) => Value.int .u32 (d : Int)
theorem dig_zero : dig 0 = [] := by rw [dig]; simp
theorem dig_pos {n : Nat} (h : n ≠ 0) : dig n = n % 4294967296 :: dig (n / 4294967296) := by rw [dig]; simp [h]
theorem wval_dig (n : Nat) : wval (dig n) = n := by
 induction n using Nat.strongRecOn with
 | _ n ih =>
   by_cases h : n = 0
   · subst h; simp [dig_zero, wval]
   · rw [dig_pos h, wval, ih _ (by omega)]; omega
theorem WB_dig (n : Nat) : WB (dig n) := by
 induction n using Nat.strongRecOn with
 | _ n ih =>
   by_cases h : n = 0
   · subst h; simp [dig_zero, WB]
   · rw [dig_pos h]
     intro d hd
     rcases List.mem_cons.1 hd with rfl | hd
     · omega
     · exact ih _ (by omega) d hd
theorem wval_append (a b : List Nat) : wval (a ++ b) = wval a + 4294967296 ^ a.length * wval b := by
 induction a with
 | nil => simp [wval]
 | cons d l ih => simp only [List.cons_append, wval, ih, List.length_cons, Nat.pow_succ]; grind
theorem wval_lt {l : List Nat} (h : WB l) : wval l < 4294967296 ^ l.length := by
 induction l with
 | nil => simp [wval]
 | cons d l ih =>
   have h1 := ih (fun x hx => h x (by simp [hx]))
   have h2 := h d (by simp)
   simp only [wval, List.length_cons, Nat.pow_succ]
   omega
theorem wval_take_succ (l : List Nat) (i : Nat) : wval (l.take (i + 1)) = wval (l.take i) + l.getD i 0 * 4294967296 ^ i := by
 by_cases h : i < l.length
 · rw [List.take_succ_eq_append_getElem h, wval_append]
   have : (l.take i).length = i := by simp; omega
   rw [this]
   simp [wval, List.getD, h, Nat.mul_comm]
 · rw [List.take_of_length_le (by omega), List.take_of_length_le (by omega)]
   simp [List.getD, h]
theorem wval_take_all {l : List Nat} {i : Nat} (h : l.length ≤ i) : wval (l.take i) = wval l := by rw [List.take_of_length_le h]
theorem wval_take_set {l : List Nat} {i d : Nat} (h : i < l.length) : wval ((l.set i d).take (i + 1)) = wval (l.take i) + d * 4294967296 ^ i := by
 rw [wval_take_succ]
 have h1 : (l.set i d).take i = l.take i := by rw [List.take_set_of_le (Nat.le_refl i)]
 rw [h1]; simp [List.getD, h]
theorem wval_zeros (n : Nat) : wval (List.replicate n 0) = 0 := by
 induction n with
 | zero => rfl
 | succ n ih => simp [List.replicate_succ, wval, ih]
theorem wval_zero_of {l : List Nat} (h : ∀ d ∈ l, d = 0) : wval l = 0 := by
 induction l with
 | nil => rfl
 | cons d l ih => simp [wval, h d (by simp), ih (fun x hx => h x (by simp [hx]))]
theorem wval_drop (l : List Nat) (i : Nat) : wval l = wval (l.take i) + 4294967296 ^ (l.take i).length * wval (l.drop i) := by
 rw [← wval_append, List.take_append_drop]
theorem dig_wval {l : List Nat} (h : WB l) (hl : ∀ d, l.getLast? = some d → d ≠ 0) : dig (wval l) = l := by
 induction l with
 | nil => simp [wval, dig_zero]
 | cons d l ih =>
   have hd := h d (by simp)
   have hb : WB l := fun x hx => h x (by simp [hx])
   have hne : wval (d :: l) ≠ 0 := by
    intro h0
    simp only [wval] at h0
    have hd0 : d = 0 := by omega
    have hw0 : wval l = 0 := by omega
    cases l with
    | nil => exact hl d (by simp) hd0
    | cons e l =>
      have h1 := ih hb (fun x hx => hl x (by simpa [List.getLast?_cons_cons] using hx))
      rw [hw0, dig_zero] at h1; simp at h1
   rw [dig_pos hne]
   simp only [wval]
   have e1 : (d + 4294967296 * wval l) % 4294967296 = d := by omega
   have e2 : (d + 4294967296 * wval l) / 4294967296 = wval l := by omega
   rw [e1, e2]
   cases l with
   | nil => simp [wval, dig_zero]
   | cons e l => rw [ih hb (fun x hx => hl x (by simpa [List.getLast?_cons_cons] using hx))]
theorem dig_last {n d : Nat} (h : (dig n).getLast? = some d) : d ≠ 0 := by
 induction n using Nat.strongRecOn with
 | _ n ih =>
   by_cases h0 : n = 0
   · subst h0; simp [dig_zero] at h
   · rw [dig_pos h0] at h
     by_cases h1 : n / 4294967296 = 0
     · rw [h1, dig_zero] at h; simp at h; omega
     · rw [dig_pos h1, List.getLast?_cons_cons, ← dig_pos h1] at h
       exact ih _ (by omega) h
def wn (n : Nat) : Nat := (dig n).length
theorem wn_zero : wn 0 = 0 := by simp [wn, dig_zero]
theorem wn_eq_zero {n : Nat} : wn n = 0 ↔ n = 0 := by
 constructor
 · intro h
   rcases Nat.eq_zero_or_pos n with h0 | h0
   · exact h0
   · simp [wn, dig_pos (by omega : n ≠ 0)] at h
 · rintro rfl; exact wn_zero
theorem lt_wn (n : Nat) : n < 4294967296 ^ wn n := by
 have := wval_lt (WB_dig n)
 rwa [wval_dig] at this
theorem wn_le {n : Nat} (h : n ≠ 0) : 4294967296 ^ (wn n - 1) ≤ n := by
 induction n using Nat.strongRecOn with
 | _ n ih =>
   simp only [wn, dig_pos h, List.length_cons, Nat.add_sub_cancel]
   by_cases h1 : n / 4294967296 = 0
   · rw [h1, dig_zero]; simp; omega
   · have h2 := ih _ (by omega) h1
     have h3 : wn (n / 4294967296) ≠ 0 := by rw [Ne, wn_eq_zero]; exact h1
     have e : (dig (n / 4294967296)).length = wn (n / 4294967296) - 1 + 1 := by simp only [wn] at h3 ⊢; omega
     rw [e, Nat.pow_succ]
     have := Nat.mul_le_mul_right 4294967296 h2
     omega
theorem wn_le_of_lt {n k : Nat} (h : n < 4294967296 ^ k) : wn n ≤ k := by
 rcases Nat.eq_zero_or_pos n with h0 | h0
 · subst h0; simp [wn_zero]
 · rcases Nat.lt_or_ge k (wn n) with h1 | h1
   · exfalso
     have h2 := wn_le (by omega : n ≠ 0)
     have h3 : 4294967296 ^ k ≤ 4294967296 ^ (wn n - 1) := Nat.pow_le_pow_right (by omega) (by omega)
     omega
   · exact h1
theorem wn_mono {a b : Nat} (h : a ≤ b) : wn a ≤ wn b := wn_le_of_lt (Nat.lt_of_le_of_lt h (lt_wn b))
theorem wn_add_le (a b : Nat) : wn (a + b) ≤ max (wn a) (wn b) + 1 := by
 refine wn_le_of_lt ?_
 have h1 := lt_wn a
 have h2 := lt_wn b
 have h3 : 4294967296 ^ wn a ≤ 4294967296 ^ max (wn a) (wn b) := Nat.pow_le_pow_right (by omega) (by omega)
 have h4 : 4294967296 ^ wn b ≤ 4294967296 ^ max (wn a) (wn b) := Nat.pow_le_pow_right (by omega) (by omega)
 rw [Nat.pow_succ]; omega
theorem wn_mul_le (a b : Nat) : wn (a * b) ≤ wn a + wn b := by
 refine wn_le_of_lt ?_
 rw [Nat.pow_add]
 exact Nat.mul_lt_mul'' (lt_wn a) (lt_wn b)
theorem wn_lt_pow {n k : Nat} (h : n < 2 ^ (32 * k)) : wn n ≤ k := by
 refine wn_le_of_lt ?_
 have : (4294967296 : Nat) = 2 ^ 32 := rfl
 rw [this, ← Nat.pow_mul]; exact h
structure Words (V : View) (s : Sl) (l : List Nat) : Prop where
 load : ∀ (i d : Nat), l[i]? = Option.some d → V.load (s.a.map (·.add i)) = some (.int .u32 (d : Int))
 len : s.len = l.length
 cap : s.len ≤ s.cap
 wb : WB l
def NatAt (V : View) (s : Sl) (n : Nat) : Prop := Words V s (dig n)
theorem Words.le {V V' : View} {s : Sl} {l : List Nat} (hle : V.le V') (h : Words V s l) : Words V' s l :=
 ⟨fun i d hi => View.load_le hle (h.load i d hi), h.len, h.cap, h.wb⟩
theorem NatAt.le {V V' : View} {s : Sl} {n : Nat} (hle : V.le V') (h : NatAt V s n) : NatAt V' s n := Words.le hle h
theorem Words.isSome {V : View} {s : Sl} {l : List Nat} (h : Words V s l) (hl : 0 < s.len) : s.a.isSome = true := by
 have hl' : 0 < l.length := by rw [← h.len]; exact hl
 have := h.load 0 _ (List.getElem?_eq_getElem hl')
 cases ha : s.a with
 | none => rw [ha] at this; simp [View.load] at this
 | some a => rfl
theorem Words.get {V : View} {s : Sl} {l : List Nat} (h : Words V s l) {i : Int} (h0 : 0 ≤ i) (h1 : i < s.len) :
 V.load (Option.map (fun q => Addr.add q (Int.toNat i * 1)) s.a) = some (.int .u32 (l.getD i.toNat 0 : Nat)) := by
 have hi : i.toNat < l.length := by have := h.len; omega
 have := h.load i.toNat _ (List.getElem?_eq_getElem hi)
 simpa [List.getD, hi] using this
theorem Words.getD_lt {V : View} {s : Sl} {l : List Nat} (h : Words V s l) (i : Nat) : l.getD i 0 < 4294967296 := by
 by_cases hi : i < l.length
 · have := h.wb (l[i]) (List.getElem_mem _)
   simpa [List.getD, hi] using this
 · simp [List.getD, hi]
theorem WB.getD {l : List Nat} (h : WB l) (i : Nat) : l.getD i 0 < 4294967296 := by
 by_cases hi : i < l.length
 · have := h (l[i]) (List.getElem_mem _)
   simpa [List.getD, hi] using this
 · simp [List.getD, hi]
theorem WB.set {l : List Nat} (h : WB l) {i d : Nat} (hd : d < 4294967296) : WB (l.set i d) := by
 intro x hx
 rcases List.mem_or_eq_of_mem_set hx with h1 | h1
 · exact h x h1
 · omega
theorem WB.zeros (n : Nat) : WB (List.replicate n 0) := fun d hd => by rw [(List.mem_replicate.1 hd).2]; omega
theorem WB.take {l : List Nat} (h : WB l) (n : Nat) : WB (l.take n) := fun d hd => h d (List.mem_of_mem_take hd)
theorem WB.drop {l : List Nat} (h : WB l) (n : Nat) : WB (l.drop n) := fun d hd => h d (List.mem_of_mem_drop hd)
theorem Words.nil (V : View) : Words V (Sl.mk none 0 0) [] := ⟨fun i d h => by simp at h, rfl, by simp, fun d h => by simp at h⟩
theorem NatAt.zero (V : View) : NatAt V (Sl.mk none 0 0) 0 := by unfold NatAt; rw [dig_zero]; exact Words.nil V
theorem Words.nat {V : View} {s : Sl} {l : List Nat} (h : Words V s l) (hl : ∀ d, l.getLast? = some d → d ≠ 0) : NatAt V s (wval l) := by
 unfold NatAt; rw [dig_wval h.wb hl]; exact h
theorem Words.inj {V : View} {s : Sl} {a b : List Nat} (h1 : Words V s a) (h2 : Words V s b) : a = b := by
 have l1 := h1.len
 have l2 := h2.len
 apply List.ext_getElem?
 intro j
 by_cases hj : j < a.length
 · have g1 := h1.load j _ (List.getElem?_eq_getElem hj)
   have g2 := h2.load j _ (List.getElem?_eq_getElem (by omega))
   rw [g1] at g2
   simp only [Option.some.injEq, Value.int.injEq, true_and] at g2
   rw [List.getElem?_eq_getElem hj, List.getElem?_eq_getElem (by omega)]
   congr 1
   omega
 · rw [List.getElem?_eq_none (by omega), List.getElem?_eq_none (by omega)]
theorem NatAt.inj {V : View} {s : Sl} {a b : Nat} (h1 : NatAt V s a) (h2 : NatAt V s b) : a = b := by
 rw [← wval_dig a, ← wval_dig b, Words.inj h1 h2]
theorem NatAt.isSome {V : View} {s : Sl} {n : Nat} (h : NatAt V s n) (hl : 0 < s.len) : s.a.isSome = true := Words.isSome h hl
theorem NatAt.get {V : View} {s : Sl} {n : Nat} (h : NatAt V s n) {i : Int} (h0 : 0 ≤ i) (h1 : i < s.len) :
 V.load (Option.map (fun q => Addr.add q (Int.toNat i * 1)) s.a) = some (.int .u32 ((dig n).getD i.toNat 0 : Nat)) := Words.get h h0 h1
theorem NatAt.getD_lt {V : View} {s : Sl} {n : Nat} (h : NatAt V s n) (i : Nat) : (dig n).getD i 0 < 4294967296 := Words.getD_lt h i
theorem NatAt.len {V : View} {s : Sl} {n : Nat} (h : NatAt V s n) : s.len = (dig n).length := Words.len h
theorem Words.of_block {V : View} {b : Nat} {l : List Nat} {n c : Nat} (hb : V b = .some (wv l).toArray) (hn : n = l.length) (hc : n ≤ c) (hw : WB l) : Words V (Sl.mk (.some (Addr.mk b 0 none)) n c) l := by
 refine ⟨fun i d hi => ?_, hn, hc, hw⟩
 by_cases e : i = 0
 · subst e; simp [View.load, Addr.add, hb, wv, hi]
 · simp [View.load, Addr.add, hb, wv, hi, e]
theorem wv_length (l : List Nat) : (wv l).length = l.length := by simp [wv]
theorem wv_get {l : List Nat} {i : Nat} (h : i < l.length) : (wv l)[i]? = .some (.int .u32 (l.getD i 0 : Nat)) := by simp [wv, List.getD, h]
theorem wv_set (l : List Nat) (i d : Nat) : (wv l).set i (.int .u32 (d : Nat)) = wv (l.set i d) := by simp [wv, List.map_set]
theorem wv_zeros (n : Nat) : (List.replicate n [Value.int .u32 0]).flatten = wv (List.replicate n 0) := by
 induction n with
 | zero => rfl
 | succ n ih => simp [List.replicate_succ, ih, wv]
def natVal (V : View) (s : Sl) : Nat := wval ((List.range s.len).map fun i => match V.load (s.a.map (·.add i)) with | .some (.int _ n) => n.toNat | _ => 0)
theorem natVal_eq {V : View} {s : Sl} {n : Nat} (h : NatAt V s n) : natVal V s = n := by
 unfold natVal
 have e : ((List.range s.len).map fun i => match V.load (s.a.map (·.add i)) with | .some (.int _ n) => n.toNat | _ => 0) = dig n := by
  apply List.ext_getElem?
  intro i
  have hl := h.len
  by_cases hi : i < s.len
  · have := Words.load h i _ (List.getElem?_eq_getElem (by omega))
    simp [hi, this, List.getElem?_eq_getElem (by omega : i < (dig n).length)]
  · rw [List.getElem?_eq_none (by simp; omega), List.getElem?_eq_none (by omega)]
 rw [e, wval_dig]
theorem i64w {n : Int} (h0 : -9223372036854775808 ≤ n) (h1 : n ≤ 9223372036854775807) : IntKind.i64.wrap n = n := IntWalk.i64_in n ⟨h0, h1⟩
theorem u64w {n : Int} (h0 : 0 ≤ n) (h1 : n ≤ 18446744073709551615) : IntKind.u64.wrap n = n := IntWalk.u64_in n ⟨h0, h1⟩
theorem u32w {n : Int} (h0 : 0 ≤ n) (h1 : n ≤ 4294967295) : IntKind.u32.wrap n = n := IntWalk.u32_in n ⟨h0, h1⟩
theorem u32m (n : Int) : IntKind.u32.wrap n = n % 4294967296 := by rw [IntKind.wrap_u32]
theorem u64m (n : Int) : IntKind.u64.wrap n = n % 18446744073709551616 := by simp [IntKind.wrap, IntKind.signed, IntKind.bits]

def ws (f : Nat → Nat) : Nat → Nat
 | 0 => 0
 | n + 1 => ws f n + f n * 4294967296 ^ n
theorem ws_congr {f g : Nat → Nat} {n : Nat} (h : ∀ i, i < n → f i = g i) : ws f n = ws g n := by
 induction n with
 | zero => rfl
 | succ n ih => simp only [ws]; rw [ih (fun i hi => h i (by omega)), h n (by omega)]
theorem ws_take (l : List Nat) (n : Nat) : ws (fun i => l.getD i 0) n = wval (l.take n) := by
 induction n with
 | zero => simp [ws, wval]
 | succ n ih => rw [wval_take_succ, ← ih]; rfl
theorem ws_lt {f : Nat → Nat} {n : Nat} (h : ∀ i, i < n → f i < 4294967296) : ws f n < 4294967296 ^ n := by
 induction n with
 | zero => simp [ws]
 | succ n ih =>
   have h1 := ih (fun i hi => h i (by omega))
   have h2 := Nat.mul_le_mul_right (4294967296 ^ n) (Nat.succ_le_of_lt (h n (by omega)))
   simp only [ws, Nat.pow_succ]
   rw [Nat.succ_mul] at h2
   omega
theorem ws_add (f : Nat → Nat) (m n : Nat) : ws f (m + n) = ws f m + 4294967296 ^ m * ws (fun i => f (m + i)) n := by
 induction n with
 | zero => simp [ws]
 | succ n ih =>
   show ws f (m + n) + f (m + n) * 4294967296 ^ (m + n) = _
   rw [ih]; simp only [ws, Nat.pow_add, Nat.mul_add]; grind
def seg (l : List Nat) (j k : Nat) : Nat := ws (fun i => l.getD (j + i) 0) k
theorem seg_zero (l : List Nat) (j : Nat) : seg l j 0 = 0 := rfl
theorem seg_succ (l : List Nat) (j k : Nat) : seg l j (k + 1) = seg l j k + l.getD (j + k) 0 * 4294967296 ^ k := rfl
theorem seg_take (l : List Nat) (k : Nat) : seg l 0 k = wval (l.take k) := by
 unfold seg; simp only [Nat.zero_add]; exact ws_take l k
theorem seg_all {l : List Nat} {k : Nat} (h : l.length ≤ k) : seg l 0 k = wval l := by rw [seg_take, wval_take_all h]
theorem seg_split (l : List Nat) (j m n : Nat) : seg l j (m + n) = seg l j m + 4294967296 ^ m * seg l (j + m) n := by
 unfold seg; rw [ws_add]
 congr 2
 exact ws_congr fun i _ => by rw [Nat.add_assoc]
theorem seg_lt {l : List Nat} (h : WB l) (j k : Nat) : seg l j k < 4294967296 ^ k := ws_lt fun _ _ => h.getD _
theorem getD_set (l : List Nat) (p d i : Nat) : (l.set p d).getD i 0 = if i = p ∧ p < l.length then d else l.getD i 0 := by
 simp only [List.getD, List.getElem?_set]
 by_cases e : p = i
 · subst e
   by_cases h : p < l.length
   · simp [h]
   · simp [h]
 · have e' : ¬ i = p := fun x => e x.symm
   simp [e, e']
theorem seg_set_out {l : List Nat} {p d j k : Nat} (h : p < j ∨ j + k ≤ p) : seg (l.set p d) j k = seg l j k := by
 refine ws_congr fun i hi => ?_
 rw [getD_set, if_neg (by omega)]
theorem seg_set_last {l : List Nat} {p d j k : Nat} (hp : p = j + k) (hl : p < l.length) : seg (l.set p d) j (k + 1) = seg l j k + d * 4294967296 ^ k := by
 rw [seg_succ, seg_set_out (by omega), getD_set, if_pos (by omega)]
theorem seg_set {l : List Nat} {p d j k : Nat} (h1 : j ≤ p) (h2 : p < j + k) (hl : p < l.length) : seg (l.set p d) j k + l.getD p 0 * 4294967296 ^ (p - j) = seg l j k + d * 4294967296 ^ (p - j) := by
 induction k with
 | zero => omega
 | succ k ih =>
   rcases Nat.lt_or_ge p (j + k) with h | h
   · have := ih h
     rw [seg_succ, seg_succ, getD_set, if_neg (by omega)]; omega
   · have e : p = j + k := by omega
     rw [seg_set_last e hl, seg_succ, show p - j = k by omega, ← e]; omega
theorem seg_rep (n j k : Nat) : seg (List.replicate n 0) j k = 0 := by
 induction k with
 | zero => rfl
 | succ k ih =>
   rw [seg_succ, ih]
   have : (List.replicate n 0).getD (j + k) 0 = 0 := by
    simp only [List.getD, List.getElem?_replicate]; split <;> rfl
   rw [this]; simp
theorem guess_le {B v1 v2 P V W guess rest top u0 : Nat} (hV : V ≤ (v1 * B + v2 + 1) * P) (hW : (top * B + u0) * P ≤ W)
 (hg : guess * v1 + rest = top) (hc : guess * v2 ≤ rest * B + u0) (hB : guess ≤ v1 * B + v2 + 1) : (guess - 1) * V ≤ W := by
 rcases Nat.eq_zero_or_pos guess with h0 | h0
 · subst h0; simp
 obtain ⟨g, rfl⟩ : ∃ g, guess = g + 1 := ⟨guess - 1, by omega⟩
 simp only [Nat.add_sub_cancel]
 have h1 : (g + 1) * (v1 * B + v2) ≤ top * B + u0 := by
  subst hg
  have : (g + 1) * (v1 * B + v2) = (g + 1) * v1 * B + (g + 1) * v2 := by grind
  have h2 : ((g + 1) * v1 + rest) * B = (g + 1) * v1 * B + rest * B := by grind
  omega
 have h2 : g * (v1 * B + v2 + 1) ≤ (g + 1) * (v1 * B + v2) := by
  have : g * (v1 * B + v2 + 1) = g * (v1 * B + v2) + g := by grind
  have h3 : (g + 1) * (v1 * B + v2) = g * (v1 * B + v2) + (v1 * B + v2) := by grind
  omega
 have h3 := Nat.mul_le_mul_left g hV
 have h4 := Nat.mul_le_mul_right P (Nat.le_trans h2 h1)
 have e : g * ((v1 * B + v2 + 1) * P) = g * (v1 * B + v2 + 1) * P := by grind
 omega
end Go.Vc
namespace Go.Vc
open Go
theorem wrap32_toNat (X : BitVec IntKind.u32.bits) : IntKind.u32.wrap (X.toNat : Int) = X.toNat := by
 have h : X.toNat < 4294967296 := X.isLt
 exact u32w (by omega) (by omega)
theorem ofInt_toNat' {w : Nat} (X : BitVec w) : BitVec.ofInt w (X.toNat : Int) = X := by
 rw [BitVec.ofInt_natCast, BitVec.ofNat_toNat, BitVec.setWidth_eq]
theorem of32 {n : Nat} (h : n < 4294967296) : (BitVec.ofInt 32 (n : Int)).toNat = n := by
 rw [BitVec.ofInt_natCast, BitVec.toNat_ofNat]; exact Nat.mod_eq_of_lt h
theorem of64 {n : Nat} (h : n < 18446744073709551616) : (BitVec.ofInt 64 (n : Int)).toNat = n := by
 rw [BitVec.ofInt_natCast, BitVec.toNat_ofNat]; exact Nat.mod_eq_of_lt h
theorem or64 {a b : Nat} (ha : a < 4294967296) (hb : b < 4294967296) :
 BitVec.toNat ((BitVec.ofInt IntKind.u64.bits (((b * 4294967296 : Nat)) : Int)) ||| (BitVec.ofInt IntKind.u64.bits ((a : Nat) : Int))) = b * 4294967296 + a := by
 have e : IntKind.u64.bits = 64 := rfl
 rw [e, BitVec.ofInt_natCast, BitVec.ofInt_natCast, BitVec.toNat_or, BitVec.toNat_ofNat, BitVec.toNat_ofNat, Nat.mod_eq_of_lt (by omega), Nat.mod_eq_of_lt (by omega)]
 have := Nat.two_pow_add_eq_or_of_lt (i := 32) (b := a) (by omega) b
 rw [show b * 4294967296 = 2 ^ 32 * b by omega, ← this]
theorem or64' {a b : Nat} (ha : a < 4294967296) (hb : b < 4294967296) :
 BitVec.toNat ((BitVec.ofInt IntKind.u64.bits ((a : Nat) : Int)) ||| (BitVec.ofInt IntKind.u64.bits (((b * 4294967296 : Nat)) : Int))) = b * 4294967296 + a := by
 rw [BitVec.or_comm]; exact or64 ha hb
theorem shr63 (X : BitVec IntKind.u32.bits) : Int.fdiv (X.toNat : Int) (2 ^ (min (Int.toNat 31) (IntKind.u32.bits))) = X.msb.toNat := by
 have e : (2 : Int) ^ (min (Int.toNat 31) (IntKind.u32.bits)) = 2147483648 := by decide
 have h : X.toNat < 4294967296 := X.isLt
 rw [e, Int.fdiv_eq_ediv_of_nonneg _ (by omega), BitVec.msb_eq_decide]
 have e2 : 2 ^ (IntKind.u32.bits - 1) = 2147483648 := by decide
 rw [e2]
 by_cases hx : 2147483648 ≤ X.toNat
 · simp [hx]; omega
 · simp [hx]; omega
theorem sub32_msb {x y b : Nat} (hx : x < 4294967296) (hy : y < 4294967296) (hb : b ≤ 1) (X Y D : BitVec 32) (hX : X.toNat = x) (hY : Y.toNat = y) (hD : D.toNat = (x + 8589934592 - y - b) % 4294967296) (M : BitVec 32) (hM : M = BitVec.allOnes 32) :
 (((M ^^^ X) &&& Y) ||| ((M ^^^ (X ^^^ Y)) &&& D)).msb.toNat = if x < y + b then 1 else 0 := by
 subst hM
 simp only [BitVec.msb_or, BitVec.msb_and, BitVec.msb_xor, BitVec.msb_allOnes (w := 32) (by omega)]
 simp only [BitVec.msb_eq_decide, hX, hY, hD]
 have e2 : 2 ^ (32 - 1) = 2147483648 := by decide
 rw [e2]
 by_cases h1 : 2147483648 ≤ x <;> by_cases h2 : 2147483648 ≤ y <;> by_cases h3 : 2147483648 ≤ (x + 8589934592 - y - b) % 4294967296 <;> simp [h1, h2, h3] <;> omega
theorem dig_getD (a i : Nat) : (dig a).getD i 0 = a / 4294967296 ^ i % 4294967296 := by
 induction i generalizing a with
 | zero =>
   by_cases h : a = 0
   · subst h; simp [dig_zero]
   · rw [dig_pos h]; simp
 | succ i ih =>
   by_cases h : a = 0
   · subst h; simp [dig_zero]
   · rw [dig_pos h, List.getD_cons_succ, ih, Nat.pow_succ, Nat.mul_comm, Nat.div_div_eq_div_mul]
def bl (n : Nat) : Nat := if n = 0 then 0 else Nat.log2 n + 1
theorem bl_zero : bl 0 = 0 := by simp [bl]
theorem lt_bl (n : Nat) : n < 2 ^ bl n := by
 unfold bl; split
 · omega
 · exact Nat.lt_log2_self
theorem bl_le {n : Nat} (h : n ≠ 0) : 2 ^ (bl n - 1) ≤ n := by
 simp only [bl, h, if_false, Nat.add_sub_cancel]; exact Nat.log2_self_le h
theorem bl_pos {n : Nat} (h : n ≠ 0) : 0 < bl n := by simp [bl, h]
theorem bl_eq {n k : Nat} (h1 : 2 ^ k ≤ n) (h2 : n < 2 ^ (k + 1)) : bl n = k + 1 := by
 have h0 : n ≠ 0 := by have := Nat.two_pow_pos k; omega
 have a1 := lt_bl n
 have a2 := bl_le h0
 have a3 := bl_pos h0
 have b1 : k < bl n := (Nat.pow_lt_pow_iff_right (a := 2) (by omega)).1 (Nat.lt_of_le_of_lt h1 a1)
 have b2 : bl n - 1 < k + 1 := (Nat.pow_lt_pow_iff_right (a := 2) (by omega)).1 (Nat.lt_of_le_of_lt a2 h2)
 omega
theorem bl_shift {n m : Nat} (k : Nat) (h0 : n ≠ 0) (h1 : n * 2 ^ k ≤ m) (h2 : m < (n + 1) * 2 ^ k) : bl m = bl n + k := by
 have a1 := lt_bl n
 have a2 := bl_le h0
 have a3 := bl_pos h0
 have e : bl n + k = (bl n - 1 + k) + 1 := by omega
 rw [e]
 refine bl_eq ?_ ?_
 · rw [Nat.pow_add]; exact Nat.le_trans (Nat.mul_le_mul_right _ a2) h1
 · rw [show bl n - 1 + k + 1 = bl n + k by omega, Nat.pow_add]; exact Nat.lt_of_lt_of_le h2 (Nat.mul_le_mul_right _ a1)
theorem bl_div {m : Nat} (k : Nat) (h : 2 ^ k ≤ m) : bl m = bl (m / 2 ^ k) + k := by
 have hp := Nat.two_pow_pos k
 have hd : 0 < m / 2 ^ k := Nat.div_pos h hp
 refine bl_shift k (by omega) (Nat.div_mul_le_self _ _) ?_
 have := Nat.lt_succ_iff.2 (Nat.le_refl (m / 2 ^ k))
 exact (Nat.div_lt_iff_lt_mul hp).1 this
theorem td32 (n : Nat) : Int.tdiv (n : Int) 32 = ((n / 32 : Nat) : Int) := (Int.ofNat_tdiv n 32).symm
theorem tm32 (n : Nat) : Int.tmod (n : Int) 32 = ((n % 32 : Nat) : Int) := (Int.ofNat_tmod n 32).symm
theorem orDisj {r h lo : Nat} (hh : h < 2 ^ r) : (h ||| lo * 2 ^ r) = h + lo * 2 ^ r := by
 have := Nat.two_pow_add_eq_or_of_lt hh lo
 rw [Nat.or_comm, show lo * 2 ^ r = 2 ^ r * lo by rw [Nat.mul_comm], ← this]; omega
theorem or32v {a b : Nat} (ha : a < 4294967296) (hb : b < 4294967296) :
 BitVec.toNat ((BitVec.ofInt IntKind.u32.bits ((a : Nat) : Int)) ||| (BitVec.ofInt IntKind.u32.bits ((b : Nat) : Int))) = a ||| b := by
 have e : IntKind.u32.bits = 32 := rfl
 rw [e, BitVec.ofInt_natCast, BitVec.ofInt_natCast, BitVec.toNat_or, BitVec.toNat_ofNat, BitVec.toNat_ofNat, Nat.mod_eq_of_lt (by omega), Nat.mod_eq_of_lt (by omega)]

structure Guess (P vN v1 v2 u2 u1 u0 W : Nat) : Prop where
 h1 : v1 < 4294967296
 h2 : v2 < 4294967296
 pos : 0 < v1
 k2 : u2 ≤ v1
 k1 : u1 < 4294967296
 k0 : u0 < 4294967296
 vlo : (v1 * 4294967296 + v2) * P ≤ vN
 vhi : vN ≤ (v1 * 4294967296 + v2 + 1) * P
 wlo : ((u2 * 4294967296 + u1) * 4294967296 + u0) * P ≤ W
 whi : W < ((u2 * 4294967296 + u1) * 4294967296 + u0 + 1) * P
 lt : W < 4294967296 * vN
theorem Guess.big {P vN v1 v2 u2 u1 u0 W : Nat} (h : Guess P vN v1 v2 u2 u1 u0 W) {q : Nat} (hq : q * vN ≤ W) : q * (v1 * 4294967296 + v2) < (u2 * 4294967296 + u1) * 4294967296 + u0 + 1 := by
 rcases Nat.lt_or_ge (q * (v1 * 4294967296 + v2)) ((u2 * 4294967296 + u1) * 4294967296 + u0 + 1) with h1 | h1
 · exact h1
 · exfalso
   have h2 := Nat.mul_le_mul_right P h1
   have h3 := Nat.mul_le_mul_left q h.vlo
   rw [← Nat.mul_assoc] at h3
   have := h.whi
   omega
theorem Guess.init {P vN v1 v2 u2 u1 u0 W : Nat} (h : Guess P vN v1 v2 u2 u1 u0 W) : W / vN ≤ (u2 * 4294967296 + u1) / v1 := by
 rw [Nat.le_div_iff_mul_le h.pos]
 have h1 := h.big (Nat.div_mul_le_self W vN)
 generalize W / vN = q at *
 have hu0 := h.k0
 have e : q * (v1 * 4294967296 + v2) = q * v1 * 4294967296 + q * v2 := by rw [Nat.mul_add, Nat.mul_assoc]
 rw [e] at h1
 omega
theorem Guess.quo {P vN v1 v2 u2 u1 u0 W : Nat} (h : Guess P vN v1 v2 u2 u1 u0 W) : W / vN < 4294967296 := by
 have := h.lt
 rw [Nat.div_lt_iff_lt_mul]
 · exact this
 · rcases Nat.eq_zero_or_pos vN with h0 | h0
   · subst h0; omega
   · exact h0
theorem Guess.dec {P vN v1 v2 u2 u1 u0 W g r : Nat} (h : Guess P vN v1 v2 u2 u1 u0 W) (hg : g * v1 + r = u2 * 4294967296 + u1) (hc : r * 4294967296 + u0 < g * v2) : W / vN < g := by
 have h1 := h.big (Nat.div_mul_le_self W vN)
 generalize W / vN = q at *
 rcases Nat.lt_or_ge q g with h2 | h2
 · exact h2
 · exfalso
   have h3 := Nat.mul_le_mul_right (v1 * 4294967296 + v2) h2
   have e : g * (v1 * 4294967296 + v2) = g * v1 * 4294967296 + g * v2 := by rw [Nat.mul_add, Nat.mul_assoc]
   omega
theorem Guess.exit {P vN v1 v2 u2 u1 u0 W g r : Nat} (h : Guess P vN v1 v2 u2 u1 u0 W) (hg : g * v1 + r = u2 * 4294967296 + u1) (hB : g < 4294967296) (hc : g * v2 ≤ r * 4294967296 + u0) : (g - 1) * vN ≤ W := by
 have := h.pos
 exact guess_le h.vhi h.wlo hg hc (by omega)
theorem Guess.brk {P vN v1 v2 u2 u1 u0 W g r : Nat} (h : Guess P vN v1 v2 u2 u1 u0 W) (hg : g * v1 + r = u2 * 4294967296 + u1) (h0 : 0 < g) (hr : 4294967296 ≤ r + v1) : g - 1 < 4294967296 ∧ (g - 1 - 1) * vN ≤ W := by
 obtain ⟨g, rfl⟩ : ∃ k, g = k + 1 := ⟨g - 1, by omega⟩
 simp only [Nat.add_sub_cancel]
 have hg' : g * v1 + (r + v1) = u2 * 4294967296 + u1 := by rw [Nat.succ_mul] at hg; omega
 have hB : g < 4294967296 := by
  rcases Nat.lt_or_ge g 4294967296 with h1 | h1
  · exact h1
  · exfalso
    have h2 := Nat.mul_le_mul_right v1 h1
    have := h.k2
    have := h.k1
    omega
 refine ⟨hB, h.exit hg' hB ?_⟩
 have := Nat.mul_le_mul (Nat.le_of_lt hB) (Nat.le_of_lt h.h2)
 have h3 := Nat.mul_le_mul_right 4294967296 hr
 omega
theorem seg_three (l : List Nat) (j k : Nat) : seg l j (k + 1 + 1 + 1) = seg l j k + ((l.getD (j + k + 2) 0 * 4294967296 + l.getD (j + k + 1) 0) * 4294967296 + l.getD (j + k) 0) * 4294967296 ^ k := by
 rw [seg_succ, seg_succ, seg_succ, Nat.pow_succ, Nat.pow_succ, Nat.pow_succ, show j + (k + 1 + 1) = j + k + 2 by omega, show j + (k + 1) = j + k + 1 by omega]
 grind
theorem seg_two (l : List Nat) (j k : Nat) : seg l j (k + 1 + 1) = seg l j k + (l.getD (j + k + 1) 0 * 4294967296 + l.getD (j + k) 0) * 4294967296 ^ k := by
 rw [seg_succ, seg_succ, Nat.pow_succ, show j + (k + 1) = j + k + 1 by omega]
 grind
theorem seg_dig (n : Nat) {k : Nat} (h : wn n ≤ k) : seg (dig n) 0 k = n := by rw [seg_all h, wval_dig]
theorem guess_of {n vN j : Nat} {u : List Nat} (hu : WB u) (hn : 2 ≤ n) (hv : wn vN = n) (hc : seg u (j + 1) n < vN) :
 Guess (4294967296 ^ (n - 2)) vN ((dig vN).getD (n - 1) 0) ((dig vN).getD (n - 2) 0) (u.getD (j + n) 0) (u.getD (j + n - 1) 0) (u.getD (j + n - 2) 0) (seg u j (n + 1)) := by
 obtain ⟨k, rfl⟩ : ∃ k, n = k + 2 := ⟨n - 2, by omega⟩
 have e1 : k + 2 - 1 = k + 1 := rfl
 have e2 : k + 2 - 2 = k := rfl
 have e3 : j + (k + 2) = j + k + 2 := rfl
 have e4 : j + k + 2 - 1 = j + k + 1 := rfl
 have e5 : j + k + 2 - 2 = j + k := rfl
 rw [e1, e2, e3, e4, e5]
 have hw := WB_dig vN
 have hvs := seg_dig vN (Nat.le_of_eq hv)
 rw [seg_two, Nat.zero_add] at hvs
 have b1 := seg_lt hw 0 k
 have b2 := seg_lt hu j k
 have hP : 0 < 4294967296 ^ k := Nat.pow_pos (by omega)
 have top := seg_succ u (j + 1) (k + 1)
 rw [show j + 1 + (k + 1) = j + k + 2 by omega] at top
 have hw1 : seg u j (k + 2 + 1) = u.getD j 0 + 4294967296 * seg u (j + 1) (k + 2) := by
  rw [show k + 2 + 1 = 1 + (k + 2) by omega, seg_split, seg_succ, seg_zero]; simp
 have b3 := hu.getD j
 refine ⟨hw.getD _, hw.getD _, ?_, ?_, hu.getD _, hu.getD _, by omega, by rw [Nat.succ_mul]; omega, ?_, ?_, by rw [hw1]; omega⟩
 · rcases Nat.eq_zero_or_pos ((dig vN).getD (k + 1) 0) with h0 | h0
   · exfalso
     have hl : wn vN = k + 2 := hv
     have h1 : vN ≠ 0 := by rintro rfl; rw [wn_zero] at hl; omega
     have h2 : (dig vN).getLast? = some ((dig vN).getD (k + 1) 0) := by
      rw [List.getLast?_eq_getElem?]
      simp only [wn] at hl
      simp only [List.getD]
      rw [hl, show k + 2 - 1 = k + 1 by omega, List.getElem?_eq_getElem (by omega)]; rfl
     exact dig_last h2 h0
   · exact h0
 · -- the top word
   rcases Nat.lt_or_ge ((dig vN).getD (k + 1) 0) (u.getD (j + k + 2) 0) with h0 | h0
   · exfalso
     have h1 := Nat.mul_le_mul_right (4294967296 ^ (k + 1)) (Nat.succ_le_of_lt h0)
     rw [Nat.succ_mul, Nat.pow_succ] at h1
     rw [show k + 1 + 1 = k + 2 by omega, Nat.pow_succ] at top
     have h2 := hw.getD k
     have h3 := Nat.mul_le_mul_right (4294967296 ^ k) (Nat.succ_le_of_lt h2)
     rw [Nat.succ_mul] at h3
     have e6 : ∀ z, z * (4294967296 ^ k * 4294967296) = z * 4294967296 * 4294967296 ^ k := by intro z; grind
     simp only [e6] at h1 top
     rw [Nat.add_mul] at hvs
     omega
   · exact h0
 · rw [show k + 2 + 1 = k + 1 + 1 + 1 by omega, seg_three]; omega
 · rw [show k + 2 + 1 = k + 1 + 1 + 1 by omega, seg_three, Nat.succ_mul]; omega
theorem setL_app {α : Type} (l : List α) (off : Nat) (vs : List α) (h : off + vs.length ≤ l.length) : setL l off vs = l.take off ++ vs ++ l.drop (off + vs.length) := by
 induction vs generalizing l off with
 | nil => simp [setL]
 | cons v vs ih =>
   simp only [List.length_cons] at h
   rw [setL, ih _ _ (by simp; omega)]
   apply List.ext_getElem?
   intro i
   simp only [List.getElem?_append, List.getElem?_take, List.getElem?_drop, List.getElem?_set, List.length_append, List.length_take, List.length_set, List.length_cons, List.getElem?_cons]
   have e1 : min (off + 1) l.length = off + 1 := by omega
   have e2 : min off l.length = off := by omega
   rw [e1, e2]
   by_cases c1 : i < off
   · have c2 : ¬ off = i := by omega
     simp [c1, c2, show i < off + 1 + vs.length by omega, show i < off + 1 by omega, show i < off + (vs.length + 1) by omega]
   · by_cases c2 : i = off
     · subst c2
       simp [show i < i + 1 + vs.length by omega, show i < l.length by omega]
     · have c3 : ¬ off = i := fun x => c2 x.symm
       have c4 : ¬ i < off + 1 := by omega
       have c5 : i - off ≠ 0 := by omega
       simp only [c1, c4, if_false, c3]
       by_cases c6 : i < off + 1 + vs.length
       · simp [c6, show i < off + (vs.length + 1) by omega, c5, show i - off - 1 = i - (off + 1) by omega]
       · simp only [c6, show ¬ i < off + (vs.length + 1) by omega, if_false]
         rw [if_neg (by omega)]
         congr 1; omega
theorem setL_wv (n : Nat) (d : List Nat) (h : d.length ≤ n) : setL (wv (List.replicate n 0)) 0 (wv d) = wv (d ++ List.replicate (n - d.length) 0) := by
 rw [setL_app _ _ _ (by simp [wv]; omega)]
 simp [wv]
theorem wval_pad (d : List Nat) (n : Nat) : wval (d ++ List.replicate n 0) = wval d := by rw [wval_append, wval_zeros]; simp

structure Cq where
 re : Rat
 im : Rat
theorem Cq.ext' {x y : Cq} (h1 : x.re = y.re) (h2 : x.im = y.im) : x = y := by cases x; cases y; cases h1; cases h2; rfl
instance : DecidableEq Cq := fun x y => if h1 : x.re = y.re then if h2 : x.im = y.im then .isTrue (Cq.ext' h1 h2) else .isFalse (fun e => h2 (by rw [e])) else .isFalse (fun e => h1 (by rw [e]))
instance : Add Cq := ⟨fun x y => ⟨x.re + y.re, x.im + y.im⟩⟩
instance : Neg Cq := ⟨fun x => ⟨-x.re, -x.im⟩⟩
instance : Sub Cq := ⟨fun x y => ⟨x.re - y.re, x.im - y.im⟩⟩
instance : Mul Cq := ⟨fun x y => ⟨x.re * y.re - x.im * y.im, x.re * y.im + x.im * y.re⟩⟩
def Cq.norm (x : Cq) : Rat := x.re * x.re + x.im * x.im
def Cq.zero : Cq := ⟨0, 0⟩
def Cq.one : Cq := ⟨1, 0⟩
def Cq.I : Cq := ⟨0, 1⟩
def Cq.div (x y : Cq) : Cq := ⟨(x.re * y.re + x.im * y.im) / y.norm, (x.im * y.re - x.re * y.im) / y.norm⟩
theorem Cq.add_re (x y : Cq) : (x + y).re = x.re + y.re := rfl
theorem Cq.add_im (x y : Cq) : (x + y).im = x.im + y.im := rfl
theorem Cq.sub_re (x y : Cq) : (x - y).re = x.re - y.re := rfl
theorem Cq.sub_im (x y : Cq) : (x - y).im = x.im - y.im := rfl
theorem Cq.neg_re (x : Cq) : (-x).re = -x.re := rfl
theorem Cq.neg_im (x : Cq) : (-x).im = -x.im := rfl
theorem Cq.mul_re (x y : Cq) : (x * y).re = x.re * y.re - x.im * y.im := rfl
theorem Cq.mul_im (x y : Cq) : (x * y).im = x.re * y.im + x.im * y.re := rfl
structure Rep (z : Cq) (A B : Int) (D : Nat) : Prop where
 pos : D ≠ 0
 re : z.re = (A : Rat) / (D : Rat)
 im : z.im = (B : Rat) / (D : Rat)
structure Canon (z : Cq) (A B : Int) (D : Nat) : Prop where
 rep : Rep z A B D
 cop : Nat.gcd (Nat.gcd A.natAbs B.natAbs) D = 1
theorem natCast_ne {D : Nat} (h : D ≠ 0) : (D : Rat) ≠ 0 := by simpa using h
theorem div_eq_div_iff' {A A' : Int} {D D' : Nat} (h : D ≠ 0) (h' : D' ≠ 0) : (A : Rat) / (D : Rat) = (A' : Rat) / (D' : Rat) ↔ A * D' = A' * D := by
 rw [← Rat.mkRat_eq_div, ← Rat.mkRat_eq_div, Rat.mkRat_eq_iff h h']
theorem Canon.dvd {z : Cq} {A B A' B' : Int} {D D' : Nat} (h : Canon z A B D) (h' : Rep z A' B' D') : D ∣ D' := by
 have e1 := (div_eq_div_iff' h.rep.pos h'.pos).1 (h.rep.re.symm.trans h'.re)
 have e2 := (div_eq_div_iff' h.rep.pos h'.pos).1 (h.rep.im.symm.trans h'.im)
 have f1 : D ∣ A.natAbs * D' := by
  have := congrArg Int.natAbs e1
  rw [Int.natAbs_mul, Int.natAbs_mul, Int.natAbs_natCast, Int.natAbs_natCast] at this
  exact ⟨A'.natAbs, by rw [this, Nat.mul_comm]⟩
 have f2 : D ∣ B.natAbs * D' := by
  have := congrArg Int.natAbs e2
  rw [Int.natAbs_mul, Int.natAbs_mul, Int.natAbs_natCast, Int.natAbs_natCast] at this
  exact ⟨B'.natAbs, by rw [this, Nat.mul_comm]⟩
 have f3 := Nat.dvd_gcd f1 f2
 rw [Nat.gcd_mul_right] at f3
 have hc : Nat.Coprime D (Nat.gcd A.natAbs B.natAbs) := by rw [Nat.Coprime, Nat.gcd_comm]; exact h.cop
 exact hc.dvd_of_dvd_mul_left f3
theorem Canon.inj {z : Cq} {A B A' B' : Int} {D D' : Nat} (h : Canon z A B D) (h' : Canon z A' B' D') : A = A' ∧ B = B' ∧ D = D' := by
 have hD : D = D' := Nat.dvd_antisymm (h.dvd h'.rep) (h'.dvd h.rep)
 subst hD
 have e1 := (div_eq_div_iff' h.rep.pos h'.rep.pos).1 (h.rep.re.symm.trans h'.rep.re)
 have e2 := (div_eq_div_iff' h.rep.pos h'.rep.pos).1 (h.rep.im.symm.trans h'.rep.im)
 have hD : (D : Int) ≠ 0 := by have := h.rep.pos; omega
 exact ⟨Int.eq_of_mul_eq_mul_right hD e1, Int.eq_of_mul_eq_mul_right hD e2, rfl⟩
def gcd3 (A B : Int) (D : Nat) : Nat := Nat.gcd (Nat.gcd A.natAbs B.natAbs) D
theorem gcd3_pos (A B : Int) {D : Nat} (h : D ≠ 0) : 0 < gcd3 A B D := Nat.gcd_pos_of_pos_right _ (by omega)
theorem gcd3_dvd1 (A B : Int) (D : Nat) : gcd3 A B D ∣ A.natAbs := Nat.dvd_trans (Nat.gcd_dvd_left _ _) (Nat.gcd_dvd_left _ _)
theorem gcd3_dvd2 (A B : Int) (D : Nat) : gcd3 A B D ∣ B.natAbs := Nat.dvd_trans (Nat.gcd_dvd_left _ _) (Nat.gcd_dvd_right _ _)
theorem gcd3_dvd3 (A B : Int) (D : Nat) : gcd3 A B D ∣ D := Nat.gcd_dvd_right _ _
theorem natAbs_div {A : Int} {g : Nat} (h : g ∣ A.natAbs) : (A / (g : Int)).natAbs = A.natAbs / g := by
 obtain ⟨k, hk⟩ := h
 rcases Nat.eq_zero_or_pos g with h0 | h0
 · subst h0; simp
 · have hg : (g : Int) ≠ 0 := by omega
   rcases Int.natAbs_eq A with e | e
   · rw [hk] at e; rw [e, Int.natCast_mul, Int.mul_ediv_cancel_left _ hg, Int.natAbs_natCast, Int.natAbs_mul, Int.natAbs_natCast, Int.natAbs_natCast, Nat.mul_div_cancel_left _ h0]
   · rw [hk] at e; rw [e, Int.natCast_mul, ← Int.mul_neg, Int.mul_ediv_cancel_left _ hg, Int.natAbs_neg, Int.natAbs_natCast, Int.natAbs_mul, Int.natAbs_natCast, Int.natAbs_neg, Int.natAbs_natCast, Nat.mul_div_cancel_left _ h0]
theorem div_mul_of {A : Int} {g : Nat} (h : g ∣ A.natAbs) : A / (g : Int) * g = A := Int.ediv_mul_cancel (Int.ofNat_dvd_left.2 h)
theorem div_lt_zero {A : Int} {g : Nat} (h : g ∣ A.natAbs) (hg : 0 < g) : decide (A / (g : Int) < 0) = decide (A < 0) := by
 have e := div_mul_of h
 have hg' : (0 : Int) < g := by omega
 have : A / (g : Int) < 0 ↔ A < 0 := by
  constructor
  · intro h1
    have := Int.mul_neg_of_neg_of_pos h1 hg'
    omega
  · intro h1
    rcases Int.lt_or_le (A / (g : Int)) 0 with h2 | h2
    · exact h2
    · have := Int.mul_nonneg h2 (Int.le_of_lt hg'); omega
 simp [this]
theorem Rep.canon {z : Cq} {A B : Int} {D : Nat} (h : Rep z A B D) : Canon z (A / (gcd3 A B D : Nat)) (B / (gcd3 A B D : Nat)) (D / gcd3 A B D) := by
 have hg := gcd3_pos A B h.pos
 have d1 := gcd3_dvd1 A B D
 have d2 := gcd3_dvd2 A B D
 have d3 := gcd3_dvd3 A B D
 have hne : D / gcd3 A B D ≠ 0 := by
  have := Nat.div_pos (Nat.le_of_dvd (by have := h.pos; omega) d3) hg
  omega
 have key : ∀ {C : Int}, gcd3 A B D ∣ C.natAbs → (C : Rat) / (D : Rat) = ((C / (gcd3 A B D : Nat) : Int) : Rat) / ((D / gcd3 A B D : Nat) : Rat) := by
  intro C hC
  rw [div_eq_div_iff' h.pos hne]
  have e1 := div_mul_of hC
  have e2 := Nat.div_mul_cancel d3
  have e3 : (D : Int) = ((D / gcd3 A B D : Nat) : Int) * (gcd3 A B D : Nat) := by rw [← Int.natCast_mul, e2]
  generalize (C / (gcd3 A B D : Nat) : Int) = q at *
  generalize D / gcd3 A B D = m at *
  generalize gcd3 A B D = g at *
  rw [← e1, e3]
  grind
 refine ⟨⟨hne, h.re.trans (key d1), h.im.trans (key d2)⟩, ?_⟩
 rw [natAbs_div d1, natAbs_div d2, Nat.gcd_div d1 d2, Nat.gcd_div (Nat.dvd_gcd d1 d2) d3]
 exact Nat.div_self hg
theorem Cq.rep (z : Cq) : Rep z (z.re.num * z.im.den) (z.im.num * z.re.den) (z.re.den * z.im.den) := by
 have h1 := z.re.den_nz
 have h2 := z.im.den_nz
 have h3 := Nat.mul_ne_zero h1 h2
 refine ⟨h3, ?_, ?_⟩
 · conv => lhs; rw [← Rat.mkRat_self z.re, Rat.mkRat_eq_div]
   rw [div_eq_div_iff' h1 h3]
   rw [Int.natCast_mul]; grind
 · conv => lhs; rw [← Rat.mkRat_self z.im, Rat.mkRat_eq_div]
   rw [div_eq_div_iff' h2 h3]
   rw [Int.natCast_mul]; grind
def Cq.g (z : Cq) : Nat := gcd3 (z.re.num * z.im.den) (z.im.num * z.re.den) (z.re.den * z.im.den)
def Cq.A (z : Cq) : Int := z.re.num * z.im.den / (z.g : Int)
def Cq.B (z : Cq) : Int := z.im.num * z.re.den / (z.g : Int)
def Cq.D (z : Cq) : Nat := z.re.den * z.im.den / z.g
theorem Cq.canon (z : Cq) : Canon z z.A z.B z.D := z.rep.canon
theorem Cq.D_pos (z : Cq) : z.D ≠ 0 := z.canon.rep.pos
theorem Canon.eqs {z : Cq} {A B : Int} {D : Nat} (h : Canon z A B D) : z.A = A ∧ z.B = B ∧ z.D = D := z.canon.inj h
theorem Rep.eqs {z : Cq} {A B : Int} {D : Nat} (h : Rep z A B D) : z.A = A / (gcd3 A B D : Nat) ∧ z.B = B / (gcd3 A B D : Nat) ∧ z.D = D / gcd3 A B D := h.canon.eqs
theorem Cq.eq_of {z w : Cq} (h1 : z.A = w.A) (h2 : z.B = w.B) (h3 : z.D = w.D) : z = w := by
 have a := z.canon.rep
 have b := w.canon.rep
 exact Cq.ext' (by rw [a.re, b.re, h1, h3]) (by rw [a.im, b.im, h2, h3])
def Cq.sz (z : Cq) : Nat := max (bl z.A.natAbs) (max (bl z.B.natAbs) (bl z.D))
theorem bl_mono {a b : Nat} (h : a ≤ b) : bl a ≤ bl b := by
 rcases Nat.eq_zero_or_pos a with h0 | h0
 · subst h0; simp [bl_zero]
 · have h1 := bl_le (by omega : a ≠ 0)
   have h2 := lt_bl b
   have := (Nat.pow_lt_pow_iff_right (a := 2) (n := bl a - 1) (m := bl b) (by omega)).1 (by omega)
   omega
theorem bl_le_of_lt {a k : Nat} (h : a < 2 ^ k) : bl a ≤ k := by
 rcases Nat.eq_zero_or_pos a with h0 | h0
 · subst h0; simp [bl_zero]
 · have h1 := bl_le (by omega : a ≠ 0)
   have := (Nat.pow_lt_pow_iff_right (a := 2) (n := bl a - 1) (m := k) (by omega)).1 (by omega)
   omega
theorem lt_of_bl {a k : Nat} (h : bl a ≤ k) : a < 2 ^ k := Nat.lt_of_lt_of_le (lt_bl a) (Nat.pow_le_pow_right (by omega) h)
theorem bl_mul (a b : Nat) : bl (a * b) ≤ bl a + bl b := by
 refine bl_le_of_lt ?_
 rw [Nat.pow_add]
 exact Nat.mul_lt_mul'' (lt_bl a) (lt_bl b)
theorem bl_add {a b k : Nat} (h1 : bl a ≤ k) (h2 : bl b ≤ k) : bl (a + b) ≤ k + 1 := by
 refine bl_le_of_lt ?_
 have := lt_of_bl h1
 have := lt_of_bl h2
 rw [Nat.pow_succ]; omega
theorem bl_addi {a b : Int} {k : Nat} (h1 : bl a.natAbs ≤ k) (h2 : bl b.natAbs ≤ k) : bl (a + b).natAbs ≤ k + 1 :=
 Nat.le_trans (bl_mono (Int.natAbs_add_le a b)) (bl_add h1 h2)
theorem bl_subi {a b : Int} {k : Nat} (h1 : bl a.natAbs ≤ k) (h2 : bl b.natAbs ≤ k) : bl (a - b).natAbs ≤ k + 1 := by
 rw [Int.sub_eq_add_neg]
 exact bl_addi h1 (by rw [Int.natAbs_neg]; exact h2)
theorem bl_muli (a b : Int) : bl (a * b).natAbs ≤ bl a.natAbs + bl b.natAbs := by rw [Int.natAbs_mul]; exact bl_mul _ _
theorem wn_bl {a k : Nat} (h : bl a ≤ 32 * k) : wn a ≤ k := wn_lt_pow (lt_of_bl h)
theorem Rep.sz {z : Cq} {A B : Int} {D k : Nat} (h : Rep z A B D) (hA : bl A.natAbs ≤ k) (hB : bl B.natAbs ≤ k) (hD : bl D ≤ k) : z.sz ≤ k := by
 obtain ⟨e1, e2, e3⟩ := h.eqs
 unfold Cq.sz
 rw [e1, e2, e3, natAbs_div (gcd3_dvd1 A B D), natAbs_div (gcd3_dvd2 A B D)]
 have a := bl_mono (Nat.div_le_self A.natAbs (gcd3 A B D))
 have b := bl_mono (Nat.div_le_self B.natAbs (gcd3 A B D))
 have c := bl_mono (Nat.div_le_self D (gcd3 A B D))
 omega
theorem Cq.szA (z : Cq) : bl z.A.natAbs ≤ z.sz := Nat.le_max_left _ _
theorem Cq.szB (z : Cq) : bl z.B.natAbs ≤ z.sz := by unfold Cq.sz; omega
theorem Cq.szD (z : Cq) : bl z.D ≤ z.sz := by unfold Cq.sz; omega
theorem Rep.add {z w : Cq} {A B A' B' : Int} {D D' : Nat} (h : Rep z A B D) (h' : Rep w A' B' D') : Rep (z + w) (A * D' + A' * D) (B * D' + B' * D) (D * D') := by
 have n1 := natCast_ne h.pos
 have n2 := natCast_ne h'.pos
 refine ⟨Nat.mul_ne_zero h.pos h'.pos, ?_, ?_⟩
 · rw [Cq.add_re, h.re, h'.re]; push_cast; grind
 · rw [Cq.add_im, h.im, h'.im]; push_cast; grind
theorem Rep.neg {z : Cq} {A B : Int} {D : Nat} (h : Rep z A B D) : Rep (-z) (-A) (-B) D := by
 refine ⟨h.pos, ?_, ?_⟩
 · rw [Cq.neg_re, h.re]; push_cast; grind
 · rw [Cq.neg_im, h.im]; push_cast; grind
theorem Rep.mul {z w : Cq} {A B A' B' : Int} {D D' : Nat} (h : Rep z A B D) (h' : Rep w A' B' D') : Rep (z * w) (A * A' - B * B') (A * B' + B * A') (D * D') := by
 have n1 := natCast_ne h.pos
 have n2 := natCast_ne h'.pos
 refine ⟨Nat.mul_ne_zero h.pos h'.pos, ?_, ?_⟩
 · rw [Cq.mul_re, h.re, h'.re, h.im, h'.im]; push_cast; grind
 · rw [Cq.mul_im, h.re, h'.re, h.im, h'.im]; push_cast; grind

def IntAt (V : View) (x : WhV) (n : Int) : Prop := x.neg = decide (n < 0) ∧ NatAt V x.mag n.natAbs
theorem IntAt.le {V V' : View} {x : WhV} {n : Int} (hle : V.le V') (h : IntAt V x n) : IntAt V' x n := ⟨h.1, h.2.le hle⟩
theorem IntAt.zero (V : View) : IntAt V (WhV.mk false (Sl.mk none 0 0)) 0 := ⟨by simp, NatAt.zero V⟩
theorem IntAt.val {V : View} {x : WhV} {n : Int} (h : IntAt V x n) : n = if x.neg = true then -(n.natAbs : Int) else (n.natAbs : Int) := by
 rw [h.1]; simp only [decide_eq_true_eq]; split <;> omega
theorem IntAt.inj {V : View} {x : WhV} {n m : Int} (h : IntAt V x n) (h' : IntAt V x m) : n = m := by
 rw [h.val, h'.val, NatAt.inj h.2 h'.2]
structure NumAt (V : View) (x : NumV) (z : Cq) : Prop where
 re : IntAt V x.re z.A
 im : IntAt V x.im z.B
 under : NatAt V x.under (if z.D = 1 then 0 else z.D)
structure QAt (V : View) (x : NumV) (z : Cq) : Prop where
 re : IntAt V x.re z.A
 im : IntAt V x.im z.B
 under : NatAt V x.under z.D
theorem NumAt.le {V V' : View} {x : NumV} {z : Cq} (hle : V.le V') (h : NumAt V x z) : NumAt V' x z := ⟨h.re.le hle, h.im.le hle, h.under.le hle⟩
theorem QAt.le {V V' : View} {x : NumV} {z : Cq} (hle : V.le V') (h : QAt V x z) : QAt V' x z := ⟨h.re.le hle, h.im.le hle, h.under.le hle⟩
theorem NumAt.inj {V : View} {x : NumV} {z w : Cq} (h : NumAt V x z) (h' : NumAt V x w) : z = w := by
 refine Cq.eq_of (h.re.inj h'.re) (h.im.inj h'.im) ?_
 have := NatAt.inj h.under h'.under
 have := z.D_pos
 have := w.D_pos
 split at * <;> split at * <;> omega
theorem NatAt.len_zero {V : View} {s : Sl} {n : Nat} (h : NatAt V s n) : s.len = 0 ↔ n = 0 := by
 rw [← wn_eq_zero (n := n), wn, ← h.len]
theorem Rep.ofInt (n : Int) : Rep ⟨(n : Rat), 0⟩ n 0 1 := by
 refine ⟨by omega, ?_, ?_⟩
 · rw [Rat.div_def]; simp; grind
 · rw [Rat.div_def]; simp
theorem Cq.ofInt_eqs (n : Int) : (Cq.mk (n : Rat) 0).A = n ∧ (Cq.mk (n : Rat) 0).B = 0 ∧ (Cq.mk (n : Rat) 0).D = 1 :=
 Canon.eqs ⟨Rep.ofInt n, by simp⟩
theorem Cq.zero_eqs : Cq.zero.A = 0 ∧ Cq.zero.B = 0 ∧ Cq.zero.D = 1 := by
 have := Cq.ofInt_eqs 0
 simp only [Rat.intCast_zero] at this
 exact this
theorem NumAt.zero (V : View) : NumAt V (NumV.mk (WhV.mk false (Sl.mk none 0 0)) (WhV.mk false (Sl.mk none 0 0)) (Sl.mk none 0 0)) Cq.zero := by
 obtain ⟨h1, h2, h3⟩ := Cq.zero_eqs
 refine ⟨by rw [h1]; exact IntAt.zero V, by rw [h2]; exact IntAt.zero V, by rw [h3]; exact NatAt.zero V⟩
theorem bl_one : bl 1 = 1 := by decide
theorem Cq.sz_zero : Cq.zero.sz ≤ 1 := by
 obtain ⟨h1, h2, h3⟩ := Cq.zero_eqs
 unfold Cq.sz; rw [h1, h2, h3]; simp [bl_zero, bl_one]
theorem Cq.sz_add (z w : Cq) : (z + w).sz ≤ z.sz + w.sz + 1 := by
 have a1 := z.szA; have a2 := z.szB; have a3 := z.szD
 have b1 := w.szA; have b2 := w.szB; have b3 := w.szD
 refine (z.canon.rep.add w.canon.rep).sz ?_ ?_ ?_
 · refine bl_addi (Nat.le_trans (bl_muli _ _) ?_) (Nat.le_trans (bl_muli _ _) ?_) <;> simp only [Int.natAbs_natCast] <;> omega
 · refine bl_addi (Nat.le_trans (bl_muli _ _) ?_) (Nat.le_trans (bl_muli _ _) ?_) <;> simp only [Int.natAbs_natCast] <;> omega
 · exact Nat.le_trans (bl_mul _ _) (by omega)
theorem Cq.sz_mul (z w : Cq) : (z * w).sz ≤ z.sz + w.sz + 1 := by
 have a1 := z.szA; have a2 := z.szB; have a3 := z.szD
 have b1 := w.szA; have b2 := w.szB; have b3 := w.szD
 refine (z.canon.rep.mul w.canon.rep).sz ?_ ?_ ?_
 · exact bl_subi (Nat.le_trans (bl_muli _ _) (by omega)) (Nat.le_trans (bl_muli _ _) (by omega))
 · exact bl_addi (Nat.le_trans (bl_muli _ _) (by omega)) (Nat.le_trans (bl_muli _ _) (by omega))
 · exact Nat.le_trans (bl_mul _ _) (by omega)
theorem Cq.neg_eqs (z : Cq) : (-z).A = -z.A ∧ (-z).B = -z.B ∧ (-z).D = z.D :=
 Canon.eqs ⟨z.canon.rep.neg, by rw [Int.natAbs_neg, Int.natAbs_neg]; exact z.canon.cop⟩
theorem Cq.sz_neg (z : Cq) : (-z).sz = z.sz := by
 obtain ⟨h1, h2, h3⟩ := z.neg_eqs
 unfold Cq.sz; rw [h1, h2, h3, Int.natAbs_neg, Int.natAbs_neg]
theorem Cq.sub_eq (z w : Cq) : z - w = z + -w := Cq.ext' (by rw [Cq.sub_re, Cq.add_re, Cq.neg_re]; grind) (by rw [Cq.sub_im, Cq.add_im, Cq.neg_im]; grind)
theorem Cq.sz_sub (z w : Cq) : (z - w).sz ≤ z.sz + w.sz + 1 := by
 rw [Cq.sub_eq, ← Cq.sz_neg w]; exact Cq.sz_add z (-w)
theorem Cq.B_zero {z : Cq} : z.B = 0 ↔ z.im = 0 := by
 have h := z.canon.rep
 rw [h.im]
 constructor
 · intro e; rw [e]; simp [Rat.div_def]
 · intro e
   have hD := natCast_ne h.pos
   have : ((z.B : Int) : Rat) = 0 := by
    have h2 := congrArg (· * (z.D : Rat)) e
    simp only [Rat.div_mul_cancel hD, Rat.zero_mul] at h2
    exact h2
   simpa using this
theorem Cq.A_zero {z : Cq} : z.A = 0 ↔ z.re = 0 := by
 have h := z.canon.rep
 rw [h.re]
 constructor
 · intro e; rw [e]; simp [Rat.div_def]
 · intro e
   have hD := natCast_ne h.pos
   have : ((z.A : Int) : Rat) = 0 := by
    have h2 := congrArg (· * (z.D : Rat)) e
    simp only [Rat.div_mul_cancel hD, Rat.zero_mul] at h2
    exact h2
   simpa using this
theorem div_lt_div_iff {A A' : Int} {D D' : Nat} (h : D ≠ 0) (h' : D' ≠ 0) : (A : Rat) / (D : Rat) < (A' : Rat) / (D' : Rat) ↔ A * D' < A' * D := by
 have p : (0 : Rat) < (D : Rat) := Rat.natCast_pos.2 (by omega)
 have p' : (0 : Rat) < (D' : Rat) := Rat.natCast_pos.2 (by omega)
 rw [Rat.div_lt_iff p]
 have e : (A' : Rat) / (D' : Rat) * (D : Rat) = ((A' * D : Int) : Rat) / (D' : Rat) := by push_cast; rw [Rat.div_def, Rat.div_def]; grind
 rw [e, Rat.lt_div_iff p']
 have e2 : (A : Rat) * (D' : Rat) = ((A * D' : Int) : Rat) := by push_cast; rfl
 rw [e2]; exact Rat.intCast_lt_intCast
def cmpR (x y : Rat) : Int := if x < y then -1 else if x = y then 0 else 1
def cmpZ (x y : Int) : Int := if x < y then -1 else if x = y then 0 else 1
theorem cmpZ_lt {x y : Int} (h : x < y) : cmpZ x y = -1 := by unfold cmpZ; rw [if_pos h]
theorem cmpZ_eq {x y : Int} (h : x = y) : cmpZ x y = 0 := by unfold cmpZ; rw [if_neg (by omega), if_pos h]
theorem cmpZ_gt {x y : Int} (h : y < x) : cmpZ x y = 1 := by unfold cmpZ; rw [if_neg (by omega), if_neg (by omega)]
theorem cmpZ_R {A A' : Int} {D D' : Nat} (h : D ≠ 0) (h' : D' ≠ 0) : cmpZ (A * D') (A' * D) = cmpR ((A : Rat) / (D : Rat)) ((A' : Rat) / (D' : Rat)) := by
 unfold cmpZ cmpR
 simp only [div_lt_div_iff h h', div_eq_div_iff' h h']
def Cq.cmp (z w : Cq) : Int := if cmpR z.re w.re ≠ 0 then cmpR z.re w.re else cmpR z.im w.im

theorem addr_add2 (a : Addr) (m n : Nat) : (a.add m).add n = a.add (m + n) := by
 by_cases h1 : m = 0 <;> by_cases h2 : n = 0 <;> simp [Addr.add, h1, h2, Nat.add_assoc]
theorem load_block {V : View} {b j : Nat} {cs : Array Value} (h : V b = some cs) : V.load ((some (Addr.mk b 0 none)).map (·.add j)) = cs[j]? := by
 by_cases h1 : j = 0 <;> simp [View.load, Addr.add, h1, h]
def Cells {α : Type} (sz : Nat) (P : View → List Value → α → Prop) (V : View) : List Value → List α → Prop
 | o, [] => o = []
 | o, z :: zs => ∃ x o', o = x ++ o' ∧ x.length = sz ∧ P V x z ∧ Cells sz P V o' zs
section
variable {α : Type} {sz : Nat} {P : View → List Value → α → Prop} {V V' : View}
theorem Cells.length : ∀ {zs : List α} {o : List Value}, Cells sz P V o zs → o.length = zs.length * sz
 | [], _, h => by rw [show _ = [] from h]; simp
 | z :: zs, _, ⟨x, o', e, hx, _, h⟩ => by rw [e, List.length_append, hx, h.length, List.length_cons, Nat.add_mul]; omega
theorem Cells.imp {P' : View → List Value → α → Prop} (hP : ∀ x z, P V x z → P' V' x z) : ∀ {zs : List α} {o : List Value}, Cells sz P V o zs → Cells sz P' V' o zs
 | [], _, h => h
 | _ :: _, _, ⟨x, o', e, hx, p, h⟩ => ⟨x, o', e, hx, hP _ _ p, h.imp hP⟩
theorem Cells.append : ∀ {zs zs' : List α} {o o' : List Value}, Cells sz P V o zs → Cells sz P V o' zs' → Cells sz P V (o ++ o') (zs ++ zs')
 | [], _, _, _, h, h' => by rw [show _ = [] from h]; exact h'
 | _ :: _, _, _, _, ⟨x, o1, e, hx, p, h⟩, h' => ⟨x, o1 ++ _, by rw [e, List.append_assoc], hx, p, h.append h'⟩
theorem Cells.one {x : List Value} {z : α} (hx : x.length = sz) (p : P V x z) : Cells sz P V x [z] := ⟨x, [], by simp, hx, p, rfl⟩
theorem Cells.nil : Cells sz P V [] ([] : List α) := rfl
theorem Cells.replicate {x : List Value} {z : α} (hx : x.length = sz) (p : P V x z) : ∀ n, Cells sz P V (List.replicate n x).flatten (List.replicate n z)
 | 0 => rfl
 | n + 1 => ⟨x, (List.replicate n x).flatten, by simp [List.replicate_succ], hx, p, Cells.replicate hx p n⟩
theorem Cells.get : ∀ {zs : List α} {o : List Value}, Cells sz P V o zs → ∀ {i : Nat} {z : α}, zs[i]? = some z →
 ∃ x, P V x z ∧ x.length = sz ∧ ∀ j v, x[j]? = some v → o[i * sz + j]? = some v
 | [], _, _, i, z, hi => by simp at hi
 | z0 :: zs, _, ⟨x, o', e, hx, p, h⟩, 0, z, hi => by
   simp at hi; subst hi
   refine ⟨x, p, hx, fun j v hj => ?_⟩
   have : j < x.length := by
    rcases Nat.lt_or_ge j x.length with h | h
    · exact h
    · rw [List.getElem?_eq_none h] at hj; simp at hj
   rw [e, Nat.zero_mul, Nat.zero_add, List.getElem?_append_left this]; exact hj
 | z0 :: zs, _, ⟨x, o', e, hx, p, h⟩, i + 1, z, hi => by
   simp at hi
   obtain ⟨y, q, hy, hg⟩ := h.get hi
   refine ⟨y, q, hy, fun j v hj => ?_⟩
   rw [e, List.getElem?_append_right (by rw [hx, Nat.add_mul]; omega)]
   have : (i + 1) * sz + j - x.length = i * sz + j := by rw [hx, Nat.add_mul]; omega
   rw [this]; exact hg j v hj
theorem setL_mid {β : Type} : ∀ (vs a : List β) (b c : List β), b.length = vs.length → setL (a ++ b ++ c) a.length vs = a ++ vs ++ c
 | [], a, b, c, h => by have : b = [] := by simpa using h
                        subst this; simp [setL]
 | v :: vs, a, [], c, h => by simp at h
 | v :: vs, a, b0 :: b, c, h => by
   have h' : b.length = vs.length := by simpa using h
   unfold setL
   have e : (a ++ b0 :: b ++ c).set a.length v = (a ++ [v]) ++ b ++ c := by
    rw [List.append_assoc, List.set_append_right _ _ (Nat.le_refl _)]; simp
   rw [e]
   have e2 : a.length + 1 = (a ++ [v]).length := by simp
   rw [e2, setL_mid vs (a ++ [v]) b c h']; simp
theorem Cells.set : ∀ {zs : List α} {o : List Value}, Cells sz P V o zs → ∀ {i : Nat} {y : List Value} {z : α}, i < zs.length → y.length = sz → P V y z →
 ∀ pre : List Value, ∃ o', setL (pre ++ o) (pre.length + i * sz) y = pre ++ o' ∧ Cells sz P V o' (zs.set i z)
 | [], _, _, i, _, _, hi, _, _, _ => by simp at hi
 | z0 :: zs, _, ⟨x, o', e, hx, p, h⟩, 0, y, z, hi, hy, q, pre => by
   refine ⟨y ++ o', ?_, y, o', rfl, hy, q, h⟩
   rw [e, Nat.zero_mul, Nat.add_zero, ← List.append_assoc, setL_mid y pre x o' (by rw [hx, hy])]; simp
 | z0 :: zs, _, ⟨x, o', e, hx, p, h⟩, i + 1, y, z, hi, hy, q, pre => by
   obtain ⟨o2, e2, h2⟩ := h.set (i := i) (by simpa using hi) hy q (pre ++ x)
   refine ⟨x ++ o2, ?_, x, o2, rfl, hx, p, h2⟩
   have e3 : (pre ++ x).length + i * sz = pre.length + (i + 1) * sz := by rw [List.length_append, hx, Nat.add_mul]; omega
   rw [e, ← e3, ← List.append_assoc, e2, List.append_assoc]
theorem Cells.set0 {zs : List α} {o : List Value} (h : Cells sz P V o zs) {i : Nat} {y : List Value} {z : α} (hi : i < zs.length) (hy : y.length = sz) (q : P V y z) :
 Cells sz P V (setL o (0 + i * sz) y) (zs.set i z) := by
 obtain ⟨o', e, h'⟩ := h.set hi hy q []
 simp only [List.nil_append, List.length_nil] at e
 rw [e]; exact h'
structure ListAt (sz : Nat) (P : View → List Value → α → Prop) (V : View) (s : Sl) (zs : List α) : Prop where
 len : s.len = zs.length
 cap : s.len ≤ s.cap
 some : zs ≠ [] → s.a.isSome = true
 cells : ∃ o, V.has s.a o ∧ Cells sz P V o zs
theorem ListAt.le (hP : ∀ x z, P V x z → P V' x z) (hle : V.le V') {s : Sl} {zs : List α} (h : ListAt sz P V s zs) : ListAt sz P V' s zs := by
 obtain ⟨o, h1, h2⟩ := h.cells
 exact ⟨h.len, h.cap, h.some, o, View.has_le hle h1, h2.imp hP⟩
theorem ListAt.nil : ListAt sz P V (Sl.mk none 0 0) ([] : List α) := ⟨rfl, Nat.le_refl _, by simp, [], by intro j v h; simp at h, rfl⟩
theorem ListAt.get {s : Sl} {zs : List α} (h : ListAt sz P V s zs) {t : Int} (h0 : 0 ≤ t) {z : α} (hz : zs[t.toNat]? = .some z) :
 ((0 : Int) ≤ t ∧ t < (s.len : Nat) ∧ Option.isSome s.a = true) ∧
 ∃ x, P V x z ∧ x.length = sz ∧ V.has (Option.map (fun q => Addr.add q (Int.toNat t * sz)) s.a) x ∧ Option.isSome (Option.map (fun q => Addr.add q (Int.toNat t * sz)) s.a) = true := by
 obtain ⟨o, h1, h2⟩ := h.cells
 obtain ⟨x, p, hx, hg⟩ := h2.get hz
 have hlt : t.toNat < zs.length := by
  rcases Nat.lt_or_ge t.toNat zs.length with h | h
  · exact h
  · rw [List.getElem?_eq_none h] at hz; simp at hz
 have hne : zs ≠ [] := by intro e; rw [e] at hlt; simp at hlt
 have hs := h.some hne
 have hl := h.len
 refine ⟨⟨h0, by omega, hs⟩, x, p, hx, fun j v hj => ?_, by simpa using hs⟩
 have := h1 _ v (hg j v hj)
 rw [Option.map_map]
 have e : ((fun x : Addr => x.add j) ∘ fun q : Addr => q.add (t.toNat * sz)) = fun q : Addr => q.add (t.toNat * sz + j) := by
  funext a; exact addr_add2 a _ _
 rw [e]; exact this
theorem ListAt.of_block {b c : Nat} {o o' : List Value} {zs : List α} (hb : o ++ o' ≠ [] → V b = .some (o ++ o').toArray) (h : Cells sz P V o zs) {n : Nat} (hn : n = zs.length) (hc : n ≤ c) {a : Option Addr}
 (ha : c ≠ 0 → a = .some ⟨b, 0, none⟩) : ListAt sz P V ⟨a, n, c⟩ zs := by
 refine ⟨hn, hc, fun hne => ?_, o, fun j v hj => ?_, h⟩
 · have : zs.length ≠ 0 := by simpa using hne
   rw [ha (by omega)]; rfl
 · have hj' : j < o.length := by
     rcases Nat.lt_or_ge j o.length with h | h
     · exact h
     · rw [List.getElem?_eq_none h] at hj; simp at hj
   have hl := h.length
   have hz : zs.length ≠ 0 := by intro e; rw [e] at hl; omega
   have hne : o ++ o' ≠ [] := by intro e; have := congrArg List.length e; simp at this; simp [this] at hj'
   show V.load (a.map (·.add j)) = .some v
   rw [ha (by omega)]
   rw [load_block (hb hne), List.getElem?_toArray, List.getElem?_append_left hj']; exact hj
theorem LstOk.split {n cap : Nat} {o l : List Value} (h : LstOk sz n cap o l) : ∃ o', o = l ++ o' := ⟨o.drop (n * sz), by rw [← h.take, List.take_append_drop]⟩
theorem LstOk.nil : LstOk sz 0 0 [] [] := ⟨Nat.le_refl _, by simp, by simp⟩
theorem ListAt.of_lst {b n cap : Nat} {o l : List Value} {zs : List α} (hl : LstOk sz n cap o l) (hb : o ≠ [] → V b = .some o.toArray) (h : Cells sz P V l zs) (hn : n = zs.length) :
 ListAt sz P V ⟨lstA b cap, n, cap⟩ zs := by
 obtain ⟨o', e⟩ := hl.split
 refine ListAt.of_block (o := l) (o' := o') (b := b) (fun hne => ?_) h hn hl.le (fun hc => by simp [lstA, hc])
 rw [← e]; exact hb (by rw [e]; exact hne)
theorem ListAt.of_made {b n : Nat} {o : List Value} {zs : List α} (hb : V b = .some o.toArray) (h : Cells sz P V o zs) (hn : n = zs.length) : ListAt sz P V ⟨.some ⟨b, 0, none⟩, n, n⟩ zs :=
 ListAt.of_block (o := o) (o' := []) (b := b) (fun _ => by simpa using hb) h hn (Nat.le_refl _) (fun _ => rfl)
end
def numC (V : View) (x : List Value) (z : Cq) : Prop := ∃ n : NumV, x = n.val.cells.toList ∧ NumAt V n z
theorem numC.le {V V' : View} (hle : V.le V') (x : List Value) (z : Cq) (h : numC V x z) : numC V' x z := by
 obtain ⟨n, e, hn⟩ := h; exact ⟨n, e, hn.le hle⟩
def NumsAt (V : View) (s : Sl) (zs : List Cq) : Prop := ListAt 5 numC V s zs
def NumsIn (V : View) (o : List Value) (zs : List Cq) : Prop := Cells 5 numC V o zs
theorem NumsAt.le {V V' : View} (hle : V.le V') {s : Sl} {zs : List Cq} (h : NumsAt V s zs) : NumsAt V' s zs := ListAt.le (numC.le hle) hle h
theorem NumsIn.le {V V' : View} (hle : V.le V') {o : List Value} {zs : List Cq} (h : NumsIn V o zs) : NumsIn V' o zs := Cells.imp (numC.le hle) h
def nth (zs : List Cq) (i : Nat) : Cq := zs.getD i Cq.zero
theorem nth_get {zs : List Cq} {i : Nat} (h : i < zs.length) : zs[i]? = some (nth zs i) := by simp [nth, List.getD, h]
theorem NumsAt.get {V : View} {s : Sl} {zs : List Cq} (h : NumsAt V s zs) {t : Int} (h0 : 0 ≤ t) (h1 : t.toNat < zs.length) :
 ((0 : Int) ≤ t ∧ t < (s.len : Nat) ∧ Option.isSome s.a = true) ∧
 ∃ x : NumV, V.has (Option.map (fun q => Addr.add q (Int.toNat t * 5)) s.a) x.val.cells.toList ∧ Option.isSome (Option.map (fun q => Addr.add q (Int.toNat t * 5)) s.a) = true ∧ NumAt V x (nth zs t.toNat) := by
 obtain ⟨hb, x, ⟨n, e, hn⟩, _, h1, h2⟩ := ListAt.get h h0 (nth_get h1)
 exact ⟨hb, n, e ▸ h1, h2, hn⟩
theorem NumsIn.zeros (V : View) (n : Nat) : NumsIn V ((List.replicate n [Value.bool false, Value.slice none 0 0, Value.bool false, Value.slice none 0 0, Value.slice none 0 0]).flatten) (List.replicate n Cq.zero) :=
 Cells.replicate (x := [Value.bool false, Value.slice none 0 0, Value.bool false, Value.slice none 0 0, Value.slice none 0 0]) rfl ⟨_, rfl, NumAt.zero V⟩ n
theorem NumsIn.set {V : View} {o : List Value} {zs : List Cq} (h : NumsIn V o zs) {i : Nat} (hi : i < zs.length) {r : NumV} {z : Cq} (hr : NumAt V r z) :
 NumsIn V (setL o (0 + i * 5) [.bool r.re.neg, r.re.mag.v, .bool r.im.neg, r.im.mag.v, r.under.v]) (zs.set i z) := Cells.set0 h hi rfl ⟨r, rfl, hr⟩
theorem NumsIn.push {V : View} {o : List Value} {zs : List Cq} (h : NumsIn V o zs) {r : NumV} {z : Cq} (hr : NumAt V r z) :
 NumsIn V (o ++ [.bool r.re.neg, r.re.mag.v, .bool r.im.neg, r.im.mag.v, r.under.v]) (zs ++ [z]) := Cells.append h (Cells.one rfl ⟨r, rfl, hr⟩)
def halves (h k : Nat) (a b : Nat → Cq) : List Cq := (List.range (2 * h)).map fun i => if i < h then (if i < k then a i else Cq.zero) else (if i - h < k then b (i - h) else Cq.zero)
theorem Cells.cut {α : Type} {sz : Nat} {P : View → List Value → α → Prop} {V : View} : ∀ {zs : List α} {o : List Value}, Cells sz P V o zs → ∀ {i : Nat} {z : α}, zs[i]? = some z → P V ((o.drop (i * sz)).take sz) z
 | [], _, _, i, z, hi => by simp at hi
 | z0 :: zs, _, ⟨x, o', e, hx, p, h⟩, 0, z, hi => by
   simp at hi; subst hi
   rw [e, Nat.zero_mul, List.drop_zero, List.take_append_of_le_length (by omega), List.take_of_length_le (by omega)]; exact p
 | z0 :: zs, _, ⟨x, o', e, hx, p, h⟩, i + 1, z, hi => by
   simp at hi
   have := h.cut hi
   have e2 : (i + 1) * sz = x.length + i * sz := by rw [hx, Nat.add_mul]; omega
   rw [e, e2, ← List.drop_drop, List.drop_left]; exact this
theorem NumsIn.cut {V : View} {o : List Value} {zs : List Cq} (h : NumsIn V o zs) {i : Nat} (hi : i < zs.length) :
 ∃ x : NumV, List.take 5 (List.drop (0 + i * 5) o) = x.val.cells.toList ∧ NumAt V x (nth zs i) := by
 rw [Nat.zero_add]
 exact Cells.cut h (nth_get hi)

def infR : Nat := 9218868437227405312
def rm (r : Nat) : Nat := if r < 2 ^ 52 then r else (2 ^ 52 + r % 2 ^ 52) * 2 ^ (r / 2 ^ 52 - 1)
theorem rm_rung {m e : Nat} (h : (e = 0 ∨ 2 ^ 52 ≤ m) ∧ m ≤ 2 ^ 53) : rm (e * 2 ^ 52 + m) = m * 2 ^ e := by
 obtain ⟨h1, h2⟩ := h
 unfold rm
 by_cases c : m < 2 ^ 52
 · have : e = 0 := by omega
   subst this
   rw [if_pos (by omega)]; simp
 · rw [if_neg (by omega)]
   by_cases c2 : m < 2 ^ 53
   · have e1 : (e * 2 ^ 52 + m) / 2 ^ 52 = e + 1 := by omega
     have e2 : (e * 2 ^ 52 + m) % 2 ^ 52 = m - 2 ^ 52 := by omega
     rw [e1, e2]
     have : 2 ^ 52 + (m - 2 ^ 52) = m := by omega
     rw [this, Nat.add_sub_cancel]
   · have hm : m = 2 ^ 53 := by omega
     subst hm
     have e1 : (e * 2 ^ 52 + 2 ^ 53) / 2 ^ 52 = e + 2 := by omega
     have e2 : (e * 2 ^ 52 + 2 ^ 53) % 2 ^ 52 = 0 := by omega
     rw [e1, e2]
     have e3 : e + 2 - 1 = e + 1 := by omega
     have e4 : 2 ^ (e + 1) = 2 ^ e * 2 := Nat.pow_succ 2 e
     rw [e3, e4]
     generalize 2 ^ e = x
     omega
theorem rung_split (r : Nat) : ∃ m, r = (r / 2 ^ 52 - 1) * 2 ^ 52 + m ∧ (r / 2 ^ 52 - 1 = 0 ∨ 2 ^ 52 ≤ m) ∧ m < 2 ^ 53 := by
 refine ⟨r - (r / 2 ^ 52 - 1) * 2 ^ 52, ?_⟩
 omega
theorem rm_succ (r : Nat) : rm (r + 1) = rm r + 2 ^ (r / 2 ^ 52 - 1) := by
 obtain ⟨m, h1, h2, h3⟩ := rung_split r
 generalize r / 2 ^ 52 - 1 = e at h1 h2
 subst h1
 rw [Nat.add_assoc, rm_rung ⟨by omega, by omega⟩, rm_rung ⟨by omega, by omega⟩, Nat.add_mul, Nat.one_mul]
theorem rm_lt {a b : Nat} (h : a < b) : rm a < rm b := by
 obtain ⟨d, rfl⟩ : ∃ d, b = a + 1 + d := ⟨b - (a + 1), by omega⟩
 induction d with
 | zero => rw [Nat.add_zero, rm_succ]; have : 0 < 2 ^ (a / 2 ^ 52 - 1) := Nat.pow_pos (by omega); omega
 | succ d ih =>
   rw [← Nat.add_assoc, rm_succ]
   have := ih (by omega)
   have h2 : 0 < 2 ^ ((a + 1 + d) / 2 ^ 52 - 1) := Nat.pow_pos (by omega)
   omega
theorem rm_lt_iff {a b : Nat} : rm a < rm b ↔ a < b := by
 refine ⟨fun h => ?_, rm_lt⟩
 rcases Nat.lt_or_ge a b with c | c
 · exact c
 · rcases Nat.eq_or_lt_of_le c with c | c
   · subst c; omega
   · have := rm_lt c; omega
theorem rm_le_iff {a b : Nat} : rm a ≤ rm b ↔ a ≤ b := by
 rw [← Nat.not_lt, ← Nat.not_lt, rm_lt_iff]
theorem rm_inj {a b : Nat} (h : rm a = rm b) : a = b := by
 have h1 := rm_lt_iff (a := a) (b := b)
 have h2 := rm_lt_iff (a := b) (b := a)
 omega
theorem rm_zero : rm 0 = 0 := by decide
theorem rm_pos {a : Nat} (h : 0 < a) : 0 < rm a := by have := rm_lt h; rw [rm_zero] at this; exact this
theorem infR_eq : Ieee.double.infRung = infR := by decide
theorem binade_eq : Ieee.double.binade = 2 ^ 52 := rfl
theorem sign_eq : Ieee.double.signWeight = 2 ^ 63 := rfl
theorem least_eq : Ieee.double.leastPlace = -1074 := by decide
def okW (w : Nat) : Prop := w < 2 ^ 64 ∧ w % 2 ^ 63 ≤ infR
instance (w : Nat) : Decidable (okW w) := inferInstanceAs (Decidable (_ ∧ _))
def finW (w : Nat) : Prop := w < 2 ^ 64 ∧ w % 2 ^ 63 < infR
theorem finW.ok {w : Nat} (h : finW w) : okW w := ⟨h.1, Nat.le_of_lt h.2⟩
theorem read_fin {w : Nat} (h : w % 2 ^ 63 < infR) :
 ∃ m e : Nat, Ieee.double.read w = .number (w / 2 ^ 63 % 2 == 1) m (-1074 + (e : Int)) ∧ rm (w % 2 ^ 63) = m * 2 ^ e ∧ ((e = 0 ∨ 2 ^ 52 ≤ m) ∧ m < 2 ^ 53) ∧ w % 2 ^ 63 = e * 2 ^ 52 + m := by
 unfold Ieee.Format.read
 simp only [binade_eq, sign_eq, infR_eq, least_eq]
 generalize w % 2 ^ 63 = r at h
 by_cases c : r < 2 ^ 52
 · rw [if_pos c]
   refine ⟨r, 0, by simp, ?_, ⟨by omega, by omega⟩, by omega⟩
   unfold rm; rw [if_pos c]; omega
 · rw [if_neg c, if_pos h]
   refine ⟨2 ^ 52 + r % 2 ^ 52, r / 2 ^ 52 - 1, rfl, ?_, ⟨by omega, by omega⟩, by omega⟩
   unfold rm; rw [if_neg c]
theorem read_inf {w : Nat} (h : w % 2 ^ 63 = infR) : Ieee.double.read w = .infinity (w / 2 ^ 63 % 2 == 1) := by
 unfold Ieee.Format.read
 simp only [binade_eq, sign_eq, infR_eq, least_eq, h]
 rw [if_neg (by decide), if_neg (by decide), if_pos trivial]
theorem read_nan {w : Nat} (h : infR < w % 2 ^ 63) : ∃ s f, Ieee.double.read w = .nan s f := by
 unfold Ieee.Format.read
 simp only [binade_eq, sign_eq, infR_eq, least_eq]
 have : 2 ^ 52 ≤ infR := by decide
 rw [if_neg (by omega), if_neg (by omega), if_neg (by omega)]
 exact ⟨_, _, rfl⟩
def key (w : Nat) : Int := if w < 2 ^ 63 then (w : Int) else -((w - 2 ^ 63 : Nat) : Int)
def kz (k : Int) : Int := if k < 0 then -(rm k.natAbs : Int) else (rm k.natAbs : Int)
theorem kz_lt {a b : Int} (h : a < b) : kz a < kz b := by
 unfold kz
 split <;> split
 · have := rm_lt (a := b.natAbs) (b := a.natAbs) (by omega); omega
 · have := rm_pos (a := a.natAbs) (by omega); omega
 · omega
 · have := rm_lt (a := a.natAbs) (b := b.natAbs) (by omega); omega
theorem kz_lt_iff {a b : Int} : kz a < kz b ↔ a < b := by
 refine ⟨fun h => ?_, kz_lt⟩
 rcases Int.lt_or_le a b with c | c
 · exact c
 · rcases Int.lt_or_eq_of_le c with c | c
   · have := kz_lt c; omega
   · subst c; omega
theorem kz_neg (k : Int) : kz (-k) = -kz k := by
 unfold kz
 rw [Int.natAbs_neg]
 by_cases c : k = 0
 · subst c; simp [rm_zero]
 · split <;> split <;> omega
theorem key_neg {w : Nat} (h : w < 2 ^ 64) : (w / 2 ^ 63 % 2 == 1) = decide (2 ^ 63 ≤ w) := by
 by_cases c : w < 2 ^ 63
 · have : w / 2 ^ 63 = 0 := by omega
   rw [this, decide_eq_false (by omega)]; rfl
 · have : w / 2 ^ 63 = 1 := by omega
   rw [this, decide_eq_true (by omega)]; rfl
theorem key_rung {w : Nat} (h : w < 2 ^ 64) : (key w).natAbs = w % 2 ^ 63 := by
 unfold key; split <;> omega
theorem cmp_congr {a b c d : Int} (h1 : a < b ↔ c < d) (h2 : b < a ↔ d < c) : compare a b = compare c d := by
 show compareOfLessAndEq a b = compareOfLessAndEq c d
 unfold compareOfLessAndEq
 by_cases x : a < b
 · rw [if_pos x, if_pos (h1.1 x)]
 · rw [if_neg x, if_neg (fun y => x (h1.2 y))]
   by_cases y : a = b
   · rw [if_pos y, if_pos (by omega)]
   · rw [if_neg y, if_neg (by omega)]
theorem signed_scale {s : Bool} {m u e g : Nat} (h : u + g = e) : Ieee.signed s m u * ((2 ^ g : Nat) : Int) = if s then -((m * 2 ^ e : Nat) : Int) else ((m * 2 ^ e : Nat) : Int) := by
 unfold Ieee.signed
 rw [Nat.shiftLeft_eq]
 have : m * 2 ^ e = m * 2 ^ u * 2 ^ g := by rw [← h, Nat.pow_add, Nat.mul_assoc]
 rw [this]
 cases s <;> simp [Int.neg_mul]
theorem read_kz {w : Nat} (h : finW w) : ∃ m e : Nat, Ieee.double.read w = .number (decide (2 ^ 63 ≤ w)) m (-1074 + (e : Int)) ∧ (if decide (2 ^ 63 ≤ w) = true then -((m * 2 ^ e : Nat) : Int) else ((m * 2 ^ e : Nat) : Int)) = kz (key w) := by
 obtain ⟨m, e, h1, h2, _⟩ := read_fin h.2
 rw [key_neg h.1] at h1
 refine ⟨m, e, h1, ?_⟩
 rw [← h2]
 unfold kz
 rw [key_rung h.1]
 by_cases c : 2 ^ 63 ≤ w
 · rw [if_pos (by simpa using c)]
   by_cases z : key w < 0
   · rw [if_pos z]
   · rw [if_neg z]
     have : w % 2 ^ 63 = 0 := by unfold key at z; split at z <;> omega
     rw [this, rm_zero]; rfl
 · rw [if_neg (by simpa using c), if_neg (by unfold key; rw [if_pos (by omega)]; omega)]
theorem key_inf {w : Nat} (h : okW w) (hi : w % 2 ^ 63 = infR) : key w = if decide (2 ^ 63 ≤ w) = true then -(infR : Int) else (infR : Int) := by
 obtain ⟨h1, h2⟩ := h
 by_cases c : 2 ^ 63 ≤ w
 · rw [decide_eq_true c, if_pos rfl]
   unfold key infR at *
   rw [if_neg (by omega)]; omega
 · rw [decide_eq_false c, if_neg (by simp)]
   unfold key infR at *
   rw [if_pos (by omega)]; omega
theorem key_fin {w : Nat} (h : finW w) : -(infR : Int) < key w ∧ key w < (infR : Int) := by
 obtain ⟨h1, h2⟩ := h
 unfold key infR at *
 split <;> omega
theorem okW.cases {w : Nat} (h : okW w) : finW w ∨ w % 2 ^ 63 = infR := by
 rcases Nat.lt_or_ge (w % 2 ^ 63) infR with c | c
 · exact .inl ⟨h.1, c⟩
 · exact .inr (by have := h.2; omega)
theorem order_key {x y : Nat} (hx : okW x) (hy : okW y) : FloatKind.f64.format.order x y = some (compare (key x) (key y)) := by
 show (Ieee.double.read x).order (Ieee.double.read y) = _
 have hI : (0 : Int) < (infR : Int) := by decide
 rcases hx.cases with fx | ix <;> rcases hy.cases with fy | iy
 · obtain ⟨m, e, h1, h2⟩ := read_kz fx
   obtain ⟨n, g, h3, h4⟩ := read_kz fy
   rw [h1, h3]
   simp only [Ieee.Datum.order]
   have b1 : (-1074 + (e : Int) - min (-1074 + (e : Int)) (-1074 + (g : Int))).toNat + min e g = e := by omega
   have b2 : (-1074 + (g : Int) - min (-1074 + (e : Int)) (-1074 + (g : Int))).toNat + min e g = g := by omega
   have s1 := signed_scale (s := decide (2 ^ 63 ≤ x)) (m := m) b1
   have s2 := signed_scale (s := decide (2 ^ 63 ≤ y)) (m := n) b2
   rw [h2] at s1
   rw [h4] at s2
   have hp : (0 : Int) < ((2 ^ min e g : Nat) : Int) := by have : 0 < 2 ^ min e g := Nat.pow_pos (by omega); omega
   congr 1
   refine cmp_congr ?_ ?_
   · refine Iff.trans ?_ kz_lt_iff
     rw [← s1, ← s2]; exact (Int.mul_lt_mul_right hp).symm
   · refine Iff.trans ?_ kz_lt_iff
     rw [← s1, ← s2]; exact (Int.mul_lt_mul_right hp).symm
 · obtain ⟨m, e, h1, h2⟩ := read_kz fx
   have k := key_fin fx
   rw [h1, read_inf iy, key_neg hy.1, key_inf hy iy]
   simp only [Ieee.Datum.order]
   cases decide (2 ^ 63 ≤ y)
   · simp only [Bool.false_eq_true, if_false]
     congr 1
     show _ = compareOfLessAndEq _ _
     unfold compareOfLessAndEq; rw [if_pos (by omega)]
   · simp only [if_true]
     congr 1
     show _ = compareOfLessAndEq _ _
     unfold compareOfLessAndEq; rw [if_neg (by omega), if_neg (by omega)]
 · obtain ⟨m, e, h1, h2⟩ := read_kz fy
   have k := key_fin fy
   rw [h1, read_inf ix, key_neg hx.1, key_inf hx ix]
   simp only [Ieee.Datum.order]
   cases decide (2 ^ 63 ≤ x)
   · simp only [Bool.false_eq_true, if_false]
     congr 1
     show _ = compareOfLessAndEq _ _
     unfold compareOfLessAndEq; rw [if_neg (by omega), if_neg (by omega)]
   · simp only [if_true]
     congr 1
     show _ = compareOfLessAndEq _ _
     unfold compareOfLessAndEq; rw [if_pos (by omega)]
 · rw [read_inf ix, read_inf iy, key_neg hx.1, key_neg hy.1, key_inf hx ix, key_inf hy iy]
   simp only [Ieee.Datum.order]
   cases decide (2 ^ 63 ≤ x) <;> cases decide (2 ^ 63 ≤ y) <;> decide
theorem order_nan_l {x y : Nat} (h : infR < x % 2 ^ 63) : FloatKind.f64.format.order x y = none := by
 show (Ieee.double.read x).order (Ieee.double.read y) = _
 obtain ⟨s, f, e⟩ := read_nan h
 rw [e]; rfl
theorem ord_lt {x y : Nat} (hx : okW x) (hy : okW y) : (FloatKind.f64.format.order x y == some .lt) = decide (key x < key y) := by
 rw [order_key hx hy]
 show (some (compareOfLessAndEq _ _) == _) = _
 unfold compareOfLessAndEq
 by_cases c : key x < key y
 · rw [if_pos c, decide_eq_true c]; rfl
 · rw [if_neg c, decide_eq_false c]; split <;> rfl
theorem ord_gt {x y : Nat} (hx : okW x) (hy : okW y) : (FloatKind.f64.format.order x y == some .gt) = decide (key y < key x) := by
 rw [order_key hx hy]
 show (some (compareOfLessAndEq _ _) == _) = _
 unfold compareOfLessAndEq
 by_cases c : key x < key y
 · rw [if_pos c, decide_eq_false (by omega)]; rfl
 · rw [if_neg c]
   by_cases c2 : key x = key y
   · rw [if_pos c2, decide_eq_false (by omega)]; rfl
   · rw [if_neg c2, decide_eq_true (by omega)]; rfl
theorem ord_eq {x y : Nat} (hx : okW x) (hy : okW y) : (FloatKind.f64.format.order x y == some .eq) = decide (key x = key y) := by
 rw [order_key hx hy]
 show (some (compareOfLessAndEq _ _) == _) = _
 unfold compareOfLessAndEq
 by_cases c : key x < key y
 · rw [if_pos c, decide_eq_false (by omega)]; rfl
 · rw [if_neg c]
   by_cases c2 : key x = key y
   · rw [if_pos c2, decide_eq_true c2]; rfl
   · rw [if_neg c2, decide_eq_false c2]; rfl
theorem ord_le {x y : Nat} (hx : okW x) (hy : okW y) : ((FloatKind.f64.format.order x y == some .lt) || (FloatKind.f64.format.order x y == some .eq)) = decide (key x ≤ key y) := by
 rw [ord_lt hx hy, ord_eq hx hy, ← Bool.decide_or]; congr 1; apply propext; omega
def wordK (k : Int) : Nat := if k < 0 then 2 ^ 63 + k.natAbs else k.natAbs
theorem wordK_ok {k : Int} (h1 : -(infR : Int) ≤ k) (h2 : k ≤ (infR : Int)) : okW (wordK k) := by
 unfold wordK okW infR at *; split <;> omega
theorem wordK_fin {k : Int} (h1 : -(infR : Int) < k) (h2 : k < (infR : Int)) : finW (wordK k) := by
 unfold wordK finW infR at *; split <;> omega
theorem key_wordK {k : Int} (h1 : -(infR : Int) ≤ k) (h2 : k ≤ (infR : Int)) : key (wordK k) = k := by
 unfold key wordK infR at *
 by_cases c : k < 0
 · rw [if_pos c, if_neg (by omega)]; omega
 · rw [if_neg c, if_pos (by omega)]; omega
theorem wordK_key {w : Nat} (h : w < 2 ^ 64) (hz : w ≠ 2 ^ 63) : wordK (key w) = w := by
 unfold wordK key
 by_cases c : w < 2 ^ 63
 · rw [if_pos c, if_neg (by omega)]; omega
 · rw [if_neg c, if_pos (by omega)]; omega
theorem negFloat_word {w : Nat} (h : w < 2 ^ 64) : Op.negFloat .f64 w = if w < 2 ^ 63 then w + 2 ^ 63 else w - 2 ^ 63 := by
 show w ^^^ 2 ^ 63 = _
 have h1 : (w ^^^ 2 ^ 63) % 2 ^ 63 = w % 2 ^ 63 := by
  rw [Nat.xor_mod_two_pow, Nat.mod_self, Nat.xor_zero]
 have h2 : (w ^^^ 2 ^ 63) / 2 ^ 63 = w / 2 ^ 63 ^^^ 1 := by
  rw [Nat.xor_div_two_pow, Nat.div_self (by omega)]
 by_cases c : w < 2 ^ 63
 · rw [if_pos c]
   have e : w / 2 ^ 63 = 0 := by omega
   rw [e] at h2
   have h3 : (0 ^^^ 1 : Nat) = 1 := by decide
   rw [h3] at h2
   omega
 · rw [if_neg c]
   have e : w / 2 ^ 63 = 1 := by omega
   rw [e] at h2
   have h3 : (1 ^^^ 1 : Nat) = 0 := by decide
   rw [h3] at h2
   omega
theorem negFloat_key {w : Nat} (h : okW w) : okW (Op.negFloat .f64 w) ∧ key (Op.negFloat .f64 w) = -key w := by
 rw [negFloat_word h.1]
 obtain ⟨h1, h2⟩ := h
 unfold okW key infR at *
 by_cases c : w < 2 ^ 63
 · rw [if_pos c, if_pos c]
   refine ⟨by omega, ?_⟩
   rw [if_neg (by omega)]; omega
 · rw [if_neg c, if_neg c]
   refine ⟨by omega, ?_⟩
   rw [if_pos (by omega)]; omega
theorem cut_exact {neg : Bool} {q drop : Nat} (h : q ≠ 0) : Ieee.Toward.even.cut neg (q * 2 ^ drop) drop = q := by
 have hp : 0 < 2 ^ drop := Nat.pow_pos (by omega)
 have hn : q * 2 ^ drop ≠ 0 := Nat.mul_ne_zero h (by omega)
 have hle : 2 ^ drop ≤ q * 2 ^ drop := Nat.le_mul_of_pos_left _ (by omega)
 have hl : drop ≤ (q * 2 ^ drop).log2 := (Nat.le_log2 hn).2 hle
 unfold Ieee.Toward.cut
 have e : 1 <<< min drop ((q * 2 ^ drop).log2 + 2) = 2 ^ drop := by
  rw [Nat.min_eq_left (by omega), Nat.shiftLeft_eq, Nat.one_mul]
 simp only [e, Nat.mul_div_cancel _ hp, Nat.mul_mod_left]
 have h1 : decide (2 ^ drop < 2 * 0) = false := by simp
 have h2 : (2 ^ drop == 2 * 0) = false := by simp
 rw [h1, h2]; simp
theorem log2_mul {n k : Nat} (h : n ≠ 0) : (n * 2 ^ k).log2 = n.log2 + k := by
 have hn : n * 2 ^ k ≠ 0 := Nat.mul_ne_zero h (by have : 0 < 2 ^ k := Nat.pow_pos (by omega); omega)
 have h1 := (Nat.log2_eq_iff h (k := n.log2)).1 rfl
 refine (Nat.log2_eq_iff hn).2 ⟨?_, ?_⟩
 · rw [Nat.pow_add]; exact Nat.mul_le_mul_right _ h1.1
 · have e : n.log2 + k + 1 = (n.log2 + 1) + k := by omega
   rw [e, Nat.pow_add]; exact Nat.mul_lt_mul_of_pos_right h1.2 (Nat.pow_pos (by omega))
theorem nearest_exact {neg : Bool} {mag : Nat} {place : Int} {r : Nat} (hr : r < infR) (h0 : mag ≠ 0) {a b : Nat} (hab : place + 1074 = (a : Int) - b) (h : mag * 2 ^ a = rm r * 2 ^ b) :
 Ieee.double.nearest neg mag place = Ieee.double.word neg r := by
 obtain ⟨m, h1, h2, h3⟩ := rung_split r
 generalize r / 2 ^ 52 - 1 = e at h1 h2
 have hrm : rm r = m * 2 ^ e := by rw [h1]; exact rm_rung ⟨by omega, by omega⟩
 rw [hrm, Nat.mul_assoc, ← Nat.pow_add] at h
 have hpa : 0 < 2 ^ a := Nat.pow_pos (by omega)
 have hm : m ≠ 0 := by
  intro c; rw [c, Nat.zero_mul] at h
  have := Nat.mul_ne_zero h0 (by omega : 2 ^ a ≠ 0)
  omega
 have hlog := congrArg Nat.log2 h
 rw [log2_mul h0, log2_mul hm] at hlog
 have hlast : max (place + (mag.log2 : Int) - (Ieee.double.fractionBits : Int)) Ieee.double.leastPlace = (e : Int) - 1074 := by
  rw [least_eq]
  show max (place + (mag.log2 : Int) - 52) (-1074) = _
  rcases h2 with h2 | h2
  · have : m.log2 ≤ 52 := by
      have := (Nat.log2_lt hm (k := 53)).2 h3
      omega
    omega
  · have : m.log2 = 52 := (Nat.log2_eq_iff hm).2 ⟨h2, h3⟩
    omega
 unfold Ieee.Format.nearest
 rw [if_neg h0]
 simp only [hlast]
 have hkept : Ieee.Toward.even.cut neg (mag <<< (place - ((e : Int) - 1074)).toNat) ((e : Int) - 1074 - place).toNat = m := by
  rw [Nat.shiftLeft_eq]
  by_cases c : e + b ≤ a
  · have e1 : (place - ((e : Int) - 1074)).toNat = a - (e + b) := by omega
    have e2 : ((e : Int) - 1074 - place).toNat = 0 := by omega
    rw [e1, e2]
    have : mag * 2 ^ (a - (e + b)) = m := by
     have hp : 0 < 2 ^ (e + b) := Nat.pow_pos (by omega)
     refine Nat.eq_of_mul_eq_mul_right hp ?_
     rw [Nat.mul_assoc, ← Nat.pow_add, Nat.sub_add_cancel c, h]
    rw [this]
    have := cut_exact (neg := neg) (drop := 0) hm
    rw [Nat.pow_zero, Nat.mul_one] at this; exact this
  · have e1 : (place - ((e : Int) - 1074)).toNat = 0 := by omega
    have e2 : ((e : Int) - 1074 - place).toNat = e + b - a := by omega
    rw [e1, e2, Nat.pow_zero, Nat.mul_one]
    have : mag = m * 2 ^ (e + b - a) := by
     refine Nat.eq_of_mul_eq_mul_right hpa ?_
     rw [Nat.mul_assoc, ← Nat.pow_add, Nat.sub_add_cancel (by omega), h]
    rw [this]
    exact cut_exact hm
 rw [hkept, least_eq, binade_eq, infR_eq]
 have e3 : ((e : Int) - 1074 - -1074).toNat = e := by omega
 rw [e3, ← h1, Nat.min_eq_left (by omega)]
theorem nearest_exact0 {neg : Bool} {mag : Nat} {place : Int} {r : Nat} (hr : r < infR) (h0 : mag ≠ 0) {a : Nat} (hab : place + 1074 = (a : Int)) (h : mag * 2 ^ a = rm r) :
 Ieee.double.nearest neg mag place = Ieee.double.word neg r := nearest_exact hr h0 (a := a) (b := 0) (by omega) (by rw [h, Nat.pow_zero, Nat.mul_one])
theorem rung_of {n k : Nat} (h0 : n ≠ 0) (h : n < 2 ^ 53) : ∃ r, rm r = n * 2 ^ k ∧ (52 ≤ n.log2 + k → r = (n.log2 + k - 52) * 2 ^ 52 + n * 2 ^ (52 - n.log2) ∧ 2 ^ 52 ≤ n * 2 ^ (52 - n.log2) ∧ n * 2 ^ (52 - n.log2) < 2 ^ 53) := by
 have hl := (Nat.log2_eq_iff h0 (k := n.log2)).1 rfl
 have h52 : n.log2 ≤ 52 := by have := (Nat.log2_lt h0 (k := 53)).2 h; omega
 by_cases c : 52 ≤ n.log2 + k
 · have b1 : 2 ^ 52 ≤ n * 2 ^ (52 - n.log2) := by
     have e : (2 : Nat) ^ 52 = 2 ^ n.log2 * 2 ^ (52 - n.log2) := by rw [← Nat.pow_add]; congr 1; omega
     rw [e]; exact Nat.mul_le_mul_right _ hl.1
   have b2 : n * 2 ^ (52 - n.log2) < 2 ^ 53 := by
    have e : (2 : Nat) ^ 53 = 2 ^ (n.log2 + 1) * 2 ^ (52 - n.log2) := by rw [← Nat.pow_add]; congr 1; omega
    rw [e]; exact Nat.mul_lt_mul_of_pos_right hl.2 (Nat.pow_pos (by omega))
   refine ⟨(n.log2 + k - 52) * 2 ^ 52 + n * 2 ^ (52 - n.log2), ?_, fun _ => ⟨rfl, b1, b2⟩⟩
   rw [rm_rung ⟨.inr b1, by omega⟩, Nat.mul_assoc, ← Nat.pow_add]
   congr 2; omega
 · refine ⟨n * 2 ^ k, ?_, fun h => absurd h c⟩
   have : n * 2 ^ k < 2 ^ 52 := by
    have h1 : n * 2 ^ k < 2 ^ (n.log2 + 1) * 2 ^ k := Nat.mul_lt_mul_of_pos_right hl.2 (Nat.pow_pos (by omega))
    rw [← Nat.pow_add] at h1
    have h2 : 2 ^ (n.log2 + 1 + k) ≤ 2 ^ 52 := Nat.pow_le_pow_right (by omega) (by omega)
    omega
   unfold rm; rw [if_pos this]
theorem rm_at {r e : Nat} (h : r = e * 2 ^ 52 + 2 ^ 52) : rm r = 2 ^ 52 * 2 ^ e := by rw [h]; exact rm_rung ⟨.inr (Nat.le_refl _), by omega⟩
theorem rm_at2 {r e : Nat} (h : r = e * 2 ^ 52 + (2 ^ 53 - 1)) : rm r = (2 ^ 53 - 1) * 2 ^ e := by rw [h]; exact rm_rung ⟨.inr (by omega), by omega⟩
theorem pow_lt_of {a b : Nat} (h : a < b) : 2 ^ a < 2 ^ b := (Nat.pow_lt_pow_iff_right (by omega)).2 h
theorem top_eq {a b : Nat} (h : a = b + 1) : 2 ^ 52 * 2 ^ a = 2 ^ 53 * 2 ^ b := by
 subst h; rw [Nat.pow_succ]; omega
theorem rm_infE {e : Nat} (he : e = 2046) : rm infR = 2 ^ (52 + e) := by
 rw [Nat.pow_add]; exact rm_at (by subst he; decide)
theorem lt_inf {r n k : Nat} (h : rm r = n * 2 ^ k) (hn : n.log2 + k < 2098) (h0 : n ≠ 0) : r < infR := by
 obtain ⟨e, he⟩ : ∃ e, e = 2046 := ⟨_, rfl⟩
 rw [← rm_lt_iff, h, rm_infE he]
 have hl := (Nat.log2_eq_iff h0 (k := n.log2)).1 rfl
 have h1 : n * 2 ^ k < 2 ^ (n.log2 + 1) * 2 ^ k := Nat.mul_lt_mul_of_pos_right hl.2 (Nat.pow_pos (by omega))
 rw [← Nat.pow_add] at h1
 exact Nat.lt_of_lt_of_le h1 (Nat.pow_le_pow_right (by omega) (by omega))
theorem inf_le {r n k : Nat} (h : rm r = n * 2 ^ k) (hr : r < infR) (h0 : n ≠ 0) : n.log2 + k < 2098 := by
 obtain ⟨e, he⟩ : ∃ e, e = 2046 := ⟨_, rfl⟩
 rw [← rm_lt_iff, h, rm_infE he] at hr
 have hl := (Nat.log2_eq_iff h0 (k := n.log2)).1 rfl
 have h1 : 2 ^ n.log2 * 2 ^ k ≤ n * 2 ^ k := Nat.mul_le_mul_right _ hl.1
 rw [← Nat.pow_add] at h1
 have h2 : 2 ^ (n.log2 + k) < 2 ^ (52 + e) := Nat.lt_of_le_of_lt h1 hr
 have := (Nat.pow_lt_pow_iff_right (by omega)).1 h2
 omega
theorem read_norm {e m : Nat} (he : e ≤ 2045) (h1 : 2 ^ 52 ≤ m) (h2 : m < 2 ^ 53) : Ieee.double.read (e * 2 ^ 52 + m) = .number false m (-1074 + (e : Int)) := by
 have hb : e * 2 ^ 52 + m < 2 ^ 63 := by omega
 unfold Ieee.Format.read
 simp only [binade_eq, sign_eq, infR_eq, least_eq]
 have e1 : (e * 2 ^ 52 + m) / 2 ^ 63 = 0 := Nat.div_eq_of_lt hb
 have e2 : (e * 2 ^ 52 + m) % 2 ^ 63 = e * 2 ^ 52 + m := Nat.mod_eq_of_lt hb
 rw [e1, e2]
 have hi : e * 2 ^ 52 + m < infR := by unfold infR; omega
 rw [if_neg (by omega), if_pos hi]
 have e3 : (e * 2 ^ 52 + m) % 2 ^ 52 = m - 2 ^ 52 := by omega
 have e4 : (e * 2 ^ 52 + m) / 2 ^ 52 = e + 1 := by omega
 rw [e3, e4]
 have e5 : 2 ^ 52 + (m - 2 ^ 52) = m := by omega
 rw [e5]; rfl
theorem mul_exact {x y r : Nat} {m n : Nat} {i j : Int} (hx : Ieee.double.read x = .number false m i) (hy : Ieee.double.read y = .number false n j) (hr : r < infR) (h0 : m ≠ 0) (h1 : n ≠ 0) {a b : Nat} (hab : i + j + 1074 = (a : Int) - b) (h : m * n * 2 ^ a = rm r * 2 ^ b) :
 FloatKind.f64.format.mul x y = some r := by
 show ((Ieee.double.read x).product (Ieee.double.read y)).map Ieee.double.write = some r
 rw [hx, hy]
 show some (Ieee.double.nearest false (m * n) (i + j)) = some r
 rw [nearest_exact hr (Nat.mul_ne_zero h0 h1) hab h]; rfl
theorem nearest_nat {n : Nat} (h0 : n ≠ 0) (h : n < 2 ^ 53) : FloatKind.f64.nearest (n : Int) = (n.log2 + 1022) * 2 ^ 52 + n * 2 ^ (52 - n.log2) ∧ 2 ^ 52 ≤ n * 2 ^ (52 - n.log2) ∧ n * 2 ^ (52 - n.log2) < 2 ^ 53 := by
 obtain ⟨r, hr, hd⟩ := rung_of (k := 1074) h0 h
 obtain ⟨h1, h2, h3⟩ := hd (by omega)
 have h52 : n.log2 ≤ 52 := by have := (Nat.log2_lt h0 (k := 53)).2 h; omega
 refine ⟨?_, h2, h3⟩
 have e : n.log2 + 1074 - 52 = n.log2 + 1022 := by omega
 rw [e] at h1
 rw [← h1]
 show Ieee.double.nearest (decide ((n : Int) < 0)) (n : Int).natAbs 0 = r
 have e2 : decide ((n : Int) < 0) = false := decide_eq_false (by omega)
 rw [e2, Int.natAbs_natCast, nearest_exact (r := r) (lt_inf hr (by omega) h0) h0 (a := 1074) (b := 0) (by omega) (by rw [hr, Nat.pow_zero, Nat.mul_one])]
 rfl
theorem nearest_nat' {n : Nat} (h0 : n ≠ 0) (h : n ≤ 2 ^ 53) : ∃ e m, FloatKind.f64.nearest (n : Int) = e * 2 ^ 52 + m ∧ 2 ^ 52 ≤ m ∧ m < 2 ^ 53 ∧ m * 2 ^ e = n * 2 ^ 1074 ∧ 1022 ≤ e ∧ e ≤ 1075 := by
 by_cases c : n < 2 ^ 53
 · obtain ⟨h1, h2, h3⟩ := nearest_nat h0 c
   have h52 : n.log2 ≤ 52 := by have := (Nat.log2_lt h0 (k := 53)).2 c; omega
   refine ⟨_, _, h1, h2, h3, ?_, by omega, by omega⟩
   have e : 52 - n.log2 + (n.log2 + 1022) = 1074 := by omega
   rw [Nat.mul_assoc, ← Nat.pow_add, e]
 · have : n = 2 ^ 53 := by omega
   subst this
   have hr : rm (1075 * 2 ^ 52 + 2 ^ 52) = 2 ^ 52 * 2 ^ 1075 := rm_at (r := 1075 * 2 ^ 52 + 2 ^ 52) (e := 1075) rfl
   have hi : 1075 * 2 ^ 52 + 2 ^ 52 < infR := by unfold infR; omega
   have e3 : 2 ^ 52 * 2 ^ 1075 = 2 ^ 53 * 2 ^ 1074 := top_eq (a := 1075) (b := 1074) rfl
   have h5 : 2 ^ 53 * 2 ^ 1074 = rm (1075 * 2 ^ 52 + 2 ^ 52) := e3.symm.trans hr.symm
   refine ⟨1075, 2 ^ 52, ?_, by omega, by omega, e3, by omega, by omega⟩
   show Ieee.double.nearest (decide (((2 ^ 53 : Nat) : Int) < 0)) ((2 ^ 53 : Nat) : Int).natAbs 0 = _
   have e2 : decide (((2 ^ 53 : Nat) : Int) < 0) = false := decide_eq_false (by omega)
   rw [e2, Int.natAbs_natCast, nearest_exact0 hi (by omega) (a := 1074) (by omega) h5]
   rfl
theorem nearest_nat_zero : FloatKind.f64.nearest 0 = 0 := by decide

structure IsDown (r n d : Nat) : Prop where
 lt : r < infR
 le : rm r * d ≤ n * 2 ^ 1074
 next : r + 1 = infR ∨ n * 2 ^ 1074 < rm (r + 1) * d
structure IsUp (r n d : Nat) : Prop where
 le : r ≤ infR
 ge : r = infR ∨ n * 2 ^ 1074 ≤ rm r * d
 prev : r = 0 ∨ rm (r - 1) * d < n * 2 ^ 1074
theorem IsDown.unique {r s n d : Nat} (_ : 0 < d) (h : IsDown r n d) (k : IsDown s n d) : r = s := by
 have key : ∀ {a b}, IsDown a n d → IsDown b n d → ¬ a < b := by
  intro a b ha hb c
  rcases ha.next with e | e
  · have := hb.lt; omega
  · have h1 : rm (a + 1) ≤ rm b := rm_le_iff.2 (by omega)
    have h2 := Nat.mul_le_mul_right d h1
    have := hb.le; omega
 have := key h k
 have := key k h
 omega
theorem IsUp.unique {r s n d : Nat} (_ : 0 < d) (h : IsUp r n d) (k : IsUp s n d) : r = s := by
 have key : ∀ {a b}, IsUp a n d → IsUp b n d → ¬ a < b := by
  intro a b ha hb c
  rcases ha.ge with e | e
  · have := hb.le; omega
  · rcases hb.prev with e2 | e2
    · omega
    · have h1 : rm a ≤ rm (b - 1) := rm_le_iff.2 (by omega)
      have h2 := Nat.mul_le_mul_right d h1
      omega
 have := key h k
 have := key k h
 omega
def Mag (n d : Nat) (e : Int) : Prop := ∃ A B : Nat, e = (B : Int) - A ∧ d * 2 ^ B ≤ n * 2 ^ A ∧ n * 2 ^ A < d * 2 ^ (B + 1)
theorem two_pos (k : Nat) : 0 < 2 ^ k := Nat.pow_pos (by omega)
theorem le_pow_cancel {d i j : Nat} (_ : 0 < d) (h : d * 2 ^ i < d * 2 ^ j) : i < j := (Nat.pow_lt_pow_iff_right (by omega)).1 (Nat.lt_of_mul_lt_mul_left h)
theorem Mag.of_len {n d x y A B : Nat} (h1 : 2 ^ (x - 1) ≤ n) (h2 : n < 2 ^ x) (h3 : 2 ^ (y - 1) ≤ d) (h4 : d < 2 ^ y) (hx : 1 ≤ x) (hy : 1 ≤ y) (hA : x + A = y + B) :
 (n * 2 ^ A < d * 2 ^ B → Mag n d ((B : Int) - A - 1)) ∧ (d * 2 ^ B ≤ n * 2 ^ A → Mag n d ((B : Int) - A)) := by
 constructor
 · intro h
   refine ⟨A + 1, B, by omega, ?_, ?_⟩
   · have a1 : d * 2 ^ B ≤ 2 ^ y * 2 ^ B := Nat.mul_le_mul_right _ (by omega)
     have a2 : 2 ^ (x - 1) * 2 ^ (A + 1) ≤ n * 2 ^ (A + 1) := Nat.mul_le_mul_right _ h1
     rw [← Nat.pow_add] at a1 a2
     have e : x - 1 + (A + 1) = y + B := by omega
     rw [e] at a2; omega
   · rw [Nat.pow_succ, Nat.pow_succ, ← Nat.mul_assoc, ← Nat.mul_assoc]; omega
 · intro h
   refine ⟨A, B, rfl, h, ?_⟩
   have a1 : n * 2 ^ A < 2 ^ x * 2 ^ A := Nat.mul_lt_mul_of_pos_right h2 (two_pos A)
   have a2 : 2 ^ (y - 1) * 2 ^ (B + 1) ≤ d * 2 ^ (B + 1) := Nat.mul_le_mul_right _ h3
   rw [← Nat.pow_add] at a1 a2
   have e : y - 1 + (B + 1) = x + A := by omega
   rw [e] at a2; omega
theorem mul_flip (x y d : Nat) : x * y * d = d * x * y := by ac_rfl
theorem over_aux {R d x y n : Nat} (h : R = x * y) (a : d * x ≤ n) : R * d ≤ n * y := by
 rw [h, mul_flip]; exact Nat.mul_le_mul_right y a
theorem two_pow_of {a b c : Nat} (h : a = b + c) : 2 ^ a = 2 ^ b * 2 ^ c := by rw [h, Nat.pow_add]
theorem Mag.over {n d : Nat} {e : Int} (h : Mag n d e) (he : 1024 ≤ e) : rm infR * d ≤ n * 2 ^ 1074 := by
 obtain ⟨A, B, rfl, h1, _⟩ := h
 obtain ⟨k, rfl⟩ : ∃ k, B = A + 1024 + k := ⟨B - (A + 1024), by omega⟩
 have a : d * 2 ^ 1024 ≤ n := by
  refine Nat.le_of_mul_le_mul_right ?_ (two_pos A)
  refine Nat.le_trans ?_ h1
  rw [Nat.mul_assoc, ← Nat.pow_add 2 1024 A]
  exact Nat.mul_le_mul_left _ (Nat.pow_le_pow_right (by omega) (by omega))
 obtain ⟨g, hg⟩ : ∃ g, g = 2046 := ⟨_, rfl⟩
 have hp : 2 ^ (52 + g) = 2 ^ 1024 * 2 ^ 1074 := two_pow_of (a := 52 + g) (b := 1024) (c := 1074) (by omega)
 exact over_aux ((rm_infE hg).trans hp) a
theorem round_fact {n d : Nat} {e last : Int} (hd : 0 < d) (h : Mag n d e) (he : e ≤ 1023) (hl : last = max (e - 52) (-1074)) {a b q t : Nat} (ha : (a : Int) = max (-last) 0) (hb : (b : Int) = max last 0) (hq : q = n * 2 ^ a / (d * 2 ^ b)) (ht : (t : Int) = last + 1074) :
 q < 2 ^ 53 ∧ (t = 0 ∨ 2 ^ 52 ≤ q) ∧ t ≤ 2045 ∧ rm (t * 2 ^ 52 + q) = q * 2 ^ t ∧ IsDown (t * 2 ^ 52 + q) n d ∧
  (n * 2 ^ a % (d * 2 ^ b) = 0 → IsUp (t * 2 ^ 52 + q) n d) ∧ (n * 2 ^ a % (d * 2 ^ b) ≠ 0 → IsUp (t * 2 ^ 52 + q + 1) n d) ∧ rm (t * 2 ^ 52 + q + 1) = (q + 1) * 2 ^ t := by
 have hub : 0 < d * 2 ^ b := Nat.mul_pos hd (two_pos b)
 have f1 : q * (d * 2 ^ b) ≤ n * 2 ^ a := by rw [hq]; exact Nat.div_mul_le_self _ _
 have f2 : n * 2 ^ a < (q + 1) * (d * 2 ^ b) := by
  have := Nat.lt_mul_div_succ (n * 2 ^ a) hub
  rw [hq, Nat.mul_comm (n * 2 ^ a / (d * 2 ^ b) + 1)]; exact this
 have f3 : n * 2 ^ a = q * (d * 2 ^ b) + n * 2 ^ a % (d * 2 ^ b) := by
  rw [hq, Nat.mul_comm (n * 2 ^ a / (d * 2 ^ b))]; exact (Nat.div_add_mod _ _).symm
 obtain ⟨A, B, rfl, m1, m2⟩ := h
 have hq53 : q < 2 ^ 53 := by
  rcases Nat.lt_or_ge q (2 ^ 53) with c | c
  · exact c
  · exfalso
    have g1 : 2 ^ 53 * (d * 2 ^ b) ≤ n * 2 ^ a := Nat.le_trans (Nat.mul_le_mul_right _ c) f1
    have g2 := Nat.mul_le_mul_right (2 ^ A) g1
    have g3 := Nat.mul_lt_mul_of_pos_right m2 (two_pos a)
    have e1 : 2 ^ 53 * (d * 2 ^ b) * 2 ^ A = d * 2 ^ (53 + b + A) := by rw [Nat.pow_add, Nat.pow_add]; ac_rfl
    have e2 : n * 2 ^ a * 2 ^ A = n * 2 ^ A * 2 ^ a := by ac_rfl
    have e3 : d * 2 ^ (B + 1) * 2 ^ a = d * 2 ^ (B + 1 + a) := by rw [Nat.mul_assoc, ← Nat.pow_add]
    rw [e1, e2] at g2
    rw [e3] at g3
    have := le_pow_cancel hd (Nat.lt_of_le_of_lt g2 g3)
    omega
 have hq52 : t = 0 ∨ 2 ^ 52 ≤ q := by
  by_cases c : t = 0
  · exact .inl c
  · refine .inr ?_
    rw [hq, Nat.le_div_iff_mul_le hub]
    refine Nat.le_of_mul_le_mul_right ?_ (two_pos A)
    have g := Nat.mul_le_mul_right (2 ^ a) m1
    have e1 : 2 ^ 52 * (d * 2 ^ b) * 2 ^ A = d * 2 ^ (52 + b + A) := by rw [Nat.pow_add, Nat.pow_add]; ac_rfl
    have e2 : n * 2 ^ a * 2 ^ A = n * 2 ^ A * 2 ^ a := by ac_rfl
    have e3 : d * 2 ^ B * 2 ^ a = d * 2 ^ (B + a) := by rw [Nat.mul_assoc, ← Nat.pow_add]
    have e4 : 52 + b + A = B + a := by omega
    rw [e1, e2, e4, ← e3]; exact g
 have ht5 : t ≤ 2045 := by omega
 have hr0 : rm (t * 2 ^ 52 + q) = q * 2 ^ t := rm_rung ⟨hq52, by omega⟩
 have hr1 : rm (t * 2 ^ 52 + q + 1) = (q + 1) * 2 ^ t := by rw [Nat.add_assoc]; exact rm_rung ⟨by omega, by omega⟩
 -- the same at the common place
 obtain ⟨c, hc⟩ : ∃ c, 1074 = a + c := ⟨1074 - a, by omega⟩
 have htb : t = b + c := by omega
 have s0 : ∀ k : Nat, k * 2 ^ t * d = k * (d * 2 ^ b) * 2 ^ c := by intro k; rw [htb, Nat.pow_add]; ac_rfl
 have s1 : n * 2 ^ 1074 = n * 2 ^ a * 2 ^ c := by rw [hc, Nat.pow_add]; ac_rfl
 have g1 : q * 2 ^ t * d ≤ n * 2 ^ 1074 := by rw [s0, s1]; exact Nat.mul_le_mul_right _ f1
 have g2 : n * 2 ^ 1074 < (q + 1) * 2 ^ t * d := by rw [s0, s1]; exact Nat.mul_lt_mul_of_pos_right f2 (two_pos c)
 have hinf : t * 2 ^ 52 + q < infR := by unfold infR; omega
 refine ⟨hq53, hq52, ht5, hr0, ⟨hinf, by rw [hr0]; exact g1, .inr (by rw [hr1]; exact g2)⟩, fun h0 => ?_, fun h0 => ?_, hr1⟩
 · have g3 : q * 2 ^ t * d = n * 2 ^ 1074 := by rw [s0, s1, f3, h0, Nat.add_zero]
   refine ⟨by omega, .inr (by rw [hr0, g3]; exact Nat.le_refl _), ?_⟩
   by_cases z : t * 2 ^ 52 + q = 0
   · exact .inl z
   · refine .inr ?_
     rw [← g3, ← hr0]
     exact Nat.mul_lt_mul_of_pos_right (rm_lt (by omega)) hd
 · refine ⟨by omega, ?_, .inr ?_⟩
   · exact .inr (by rw [hr1]; omega)
   · rw [Nat.add_sub_cancel, hr0, s0, s1]
     exact Nat.mul_lt_mul_of_pos_right (by omega) (two_pos c)

def magE (n d : Nat) : Int :=
 if n * 2 ^ (max ((bl d : Int) - bl n) 0).toNat < d * 2 ^ (max ((bl n : Int) - bl d) 0).toNat then (bl n : Int) - bl d - 1 else (bl n : Int) - bl d
theorem magE_spec {n d : Nat} (hn : n ≠ 0) (hd : d ≠ 0) : Mag n d (magE n d) := by
 obtain ⟨A, hA⟩ : ∃ A, A = (max ((bl d : Int) - bl n) 0).toNat := ⟨_, rfl⟩
 obtain ⟨B, hB⟩ : ∃ B, B = (max ((bl n : Int) - bl d) 0).toNat := ⟨_, rfl⟩
 have h := Mag.of_len (n := n) (d := d) (x := bl n) (y := bl d) (A := A) (B := B) (bl_le hn) (lt_bl n) (bl_le hd) (lt_bl d) (bl_pos hn) (bl_pos hd) (by omega)
 unfold magE
 rw [← hA, ← hB]
 have e : (bl n : Int) - bl d = (B : Int) - A := by omega
 rw [e]
 split
 · exact h.1 (by assumption)
 · exact h.2 (by omega)
def place (n d : Nat) : Int := max (magE n d - 52) (-1074)
def top (n d : Nat) : Nat := n * 2 ^ (max (-place n d) 0).toNat
def bot (n d : Nat) : Nat := d * 2 ^ (max (place n d) 0).toNat
def downK (n d : Nat) : Nat :=
 if n = 0 then 0 else if magE n d > 1023 then infR - 1 else (place n d + 1074).toNat * 2 ^ 52 + top n d / bot n d
def upK (n d : Nat) : Nat :=
 if n = 0 then 0 else if magE n d > 1023 then infR
 else if top n d % bot n d = 0 then (place n d + 1074).toNat * 2 ^ 52 + top n d / bot n d else (place n d + 1074).toNat * 2 ^ 52 + top n d / bot n d + 1
theorem mul_lt_of {n K x : Nat} (h : n = 0) (hx : 0 < x) : n * K < x := by rw [h, Nat.zero_mul]; exact hx
theorem mul_le_of {n K x : Nat} (h : n = 0) : n * K ≤ x := by rw [h, Nat.zero_mul]; exact Nat.zero_le _
theorem zero_le_of {d x : Nat} : rm 0 * d ≤ x := by rw [rm_zero, Nat.zero_mul]; exact Nat.zero_le _
theorem IsDown.zeroN {n d : Nat} (h : n = 0) (hd : 0 < d) : IsDown 0 n d := ⟨by decide, zero_le_of, .inr (mul_lt_of h (Nat.mul_pos (rm_pos (by omega)) hd))⟩
theorem IsUp.zeroN {n d : Nat} (h : n = 0) : IsUp 0 n d := ⟨by decide, .inr (mul_le_of h), .inl rfl⟩
theorem IsDown.zero {d : Nat} (hd : 0 < d) : IsDown 0 0 d := IsDown.zeroN rfl hd
theorem IsUp.zero (d : Nat) : IsUp 0 0 d := IsUp.zeroN rfl
theorem IsDown.most {n d : Nat} (h : rm infR * d ≤ n * 2 ^ 1074) : IsDown (infR - 1) n d :=
 ⟨by decide, Nat.le_trans (Nat.mul_le_mul_right d (rm_le_iff.2 (by omega))) h, .inl (by decide)⟩
theorem IsUp.most {n d : Nat} (hd : 0 < d) (h : rm infR * d ≤ n * 2 ^ 1074) : IsUp infR n d :=
 ⟨Nat.le_refl _, .inl rfl, .inr (Nat.lt_of_lt_of_le (Nat.mul_lt_mul_of_pos_right (rm_lt (by decide)) hd) h)⟩
theorem downK_spec {n d : Nat} (hd : 0 < d) : IsDown (downK n d) n d := by
 unfold downK
 by_cases h0 : n = 0
 · rw [if_pos h0, h0]; exact .zero hd
 · rw [if_neg h0]
   have hM := magE_spec h0 (by omega : d ≠ 0)
   by_cases hc : magE n d > 1023
   · rw [if_pos hc]; exact .most (hM.over (by omega))
   · rw [if_neg hc]
     exact (round_fact hd hM (by omega) (last := place n d) rfl (a := (max (-place n d) 0).toNat) (b := (max (place n d) 0).toNat) (t := (place n d + 1074).toNat) (by omega) (by omega) rfl (by unfold place; omega)).2.2.2.2.1
theorem upK_spec {n d : Nat} (hd : 0 < d) : IsUp (upK n d) n d := by
 unfold upK
 by_cases h0 : n = 0
 · rw [if_pos h0, h0]; exact .zero d
 · rw [if_neg h0]
   have hM := magE_spec h0 (by omega : d ≠ 0)
   by_cases hc : magE n d > 1023
   · rw [if_pos hc]; exact .most hd (hM.over (by omega))
   · rw [if_neg hc]
     have f := (round_fact hd hM (by omega) (last := place n d) rfl (a := (max (-place n d) 0).toNat) (b := (max (place n d) 0).toNat) (t := (place n d + 1074).toNat) (by omega) (by omega) rfl (by unfold place; omega)).2.2.2.2.2
     by_cases z : top n d % bot n d = 0
     · rw [if_pos z]; exact f.1 z
     · rw [if_neg z]; exact f.2.1 z
theorem frac_le {n d n' d' a K : Nat} (hd : 0 < d) (h : n * d' = n' * d) : a * d' ≤ n' * K ↔ a * d ≤ n * K ∨ d' = 0 := by
 by_cases z : d' = 0
 · simp [z]
 · have hd' : 0 < d' := by omega
   constructor
   · intro g
     refine .inl (Nat.le_of_mul_le_mul_right ?_ hd')
     have g2 := Nat.mul_le_mul_right d g
     have e1 : a * d * d' = a * d' * d := by ac_rfl
     have e2 : n * K * d' = n' * K * d := by
      have : n * K * d' = n * d' * K := by ac_rfl
      rw [this, h]; ac_rfl
     rw [e1, e2]; exact g2
   · rintro (g | g)
     · refine Nat.le_of_mul_le_mul_right ?_ hd
       have g2 := Nat.mul_le_mul_right d' g
       have e1 : a * d' * d = a * d * d' := by ac_rfl
       have e2 : n' * K * d = n * K * d' := by
        have : n * K * d' = n * d' * K := by ac_rfl
        rw [this, h]; ac_rfl
       rw [e1, e2]; exact g2
     · exact absurd g z
theorem frac_ge {n d n' d' a K : Nat} (hd : 0 < d) (hd' : 0 < d') (h : n * d' = n' * d) : n' * K ≤ a * d' ↔ n * K ≤ a * d := by
 have e2 : n * K * d' = n' * K * d := by
  have : n * K * d' = n * d' * K := by ac_rfl
  rw [this, h]; ac_rfl
 constructor
 · intro g
   refine Nat.le_of_mul_le_mul_right ?_ hd'
   rw [e2]
   have g2 := Nat.mul_le_mul_right d g
   have e1 : a * d * d' = a * d' * d := by ac_rfl
   rw [e1]; exact g2
 · intro g
   refine Nat.le_of_mul_le_mul_right ?_ hd
   rw [← e2]
   have g2 := Nat.mul_le_mul_right d' g
   have e1 : a * d' * d = a * d * d' := by ac_rfl
   rw [e1]; exact g2
theorem IsDown.congr {r n d n' d' : Nat} (hd : 0 < d) (hd' : 0 < d') (h : n * d' = n' * d) (k : IsDown r n d) : IsDown r n' d' := by
 refine ⟨k.lt, (@frac_le n d n' d' (rm r) _ hd h).2 (.inl k.le), ?_⟩
 rcases k.next with e | e
 · exact .inl e
 · refine .inr (Nat.lt_of_not_le fun g => ?_)
   rcases (@frac_le n d n' d' (rm (r + 1)) _ hd h).1 g with g | g
   · omega
   · omega
theorem IsUp.congr {r n d n' d' : Nat} (hd : 0 < d) (hd' : 0 < d') (h : n * d' = n' * d) (k : IsUp r n d) : IsUp r n' d' := by
 refine ⟨k.le, ?_, ?_⟩
 · rcases k.ge with e | e
   · exact .inl e
   · exact .inr ((@frac_ge n d n' d' (rm r) _ hd hd' h).2 e)
 · rcases k.prev with e | e
   · exact .inl e
   · refine .inr (Nat.lt_of_not_le fun g => ?_)
     have := (@frac_ge n d n' d' (rm (r - 1)) _ hd hd' h).1 g
     omega
def belowK (q : Rat) : Int := if 0 ≤ q.num then (downK q.num.natAbs q.den : Int) else -(upK q.num.natAbs q.den : Int)
def aboveK (q : Rat) : Int := if 0 ≤ q.num then (upK q.num.natAbs q.den : Int) else -(downK q.num.natAbs q.den : Int)

structure Eb where
 inf : Int
 x : Rat
deriving DecidableEq
namespace Eb
def fin (x : Rat) : Eb := ⟨0, x⟩
def ok (a : Eb) : Prop := a.inf = 0 ∨ (a.x = 0 ∧ (a.inf = 1 ∨ a.inf = -1))
def num (a : Eb) : Cq := ⟨a.x, 0⟩
def cmp (a b : Eb) : Int := if a.inf ≠ 0 ∨ b.inf ≠ 0 then cmpZ a.inf b.inf else cmpR a.x b.x
def sign (a : Eb) : Int := cmp a (fin 0)
def neg (a : Eb) : Eb := ⟨-a.inf, -a.x⟩
def add (a b : Eb) : Eb := if a.inf ≠ 0 then a else if b.inf ≠ 0 then b else ⟨0, a.x + b.x⟩
def mul (a b : Eb) : Eb := if a.inf = 0 ∧ b.inf = 0 then ⟨0, a.x * b.x⟩ else ⟨a.sign * b.sign, 0⟩
theorem fin_ok (x : Rat) : (fin x).ok := .inl rfl
theorem neg_ok {a : Eb} (h : a.ok) : a.neg.ok := by
 rcases h with h | ⟨h, h2⟩
 · left; show -a.inf = 0; omega
 · right; refine ⟨?_, ?_⟩
   · show -a.x = 0; rw [h]; rfl
   · show -a.inf = 1 ∨ -a.inf = -1; omega
theorem add_ok {a b : Eb} (h : a.ok) (k : b.ok) : (a.add b).ok := by
 unfold add; split
 · exact h
 · split
   · exact k
   · exact .inl rfl
theorem cmpZ_range (a b : Int) : cmpZ a b = -1 ∨ cmpZ a b = 0 ∨ cmpZ a b = 1 := by unfold cmpZ; split <;> (try split) <;> simp
theorem cmpR_range (a b : Rat) : cmpR a b = -1 ∨ cmpR a b = 0 ∨ cmpR a b = 1 := by unfold cmpR; split <;> (try split) <;> simp
theorem cmp_range (a b : Eb) : cmp a b = -1 ∨ cmp a b = 0 ∨ cmp a b = 1 := by
 unfold cmp; split
 · exact cmpZ_range _ _
 · exact cmpR_range _ _
theorem mul_ok (a b : Eb) : (a.mul b).ok := by
 unfold mul; split
 · exact .inl rfl
 · have h1 : a.sign = -1 ∨ a.sign = 0 ∨ a.sign = 1 := cmp_range _ _
   have h2 : b.sign = -1 ∨ b.sign = 0 ∨ b.sign = 1 := cmp_range _ _
   rcases h1 with h1 | h1 | h1 <;> rcases h2 with h2 | h2 | h2 <;> rw [h1, h2] <;> unfold ok <;> simp
def pick (way : Int) : List Eb → Eb
 | [] => ⟨0, 0⟩
 | e :: es => es.foldl (fun o x => if cmp x o = way then x else o) e
theorem pick_mem (way : Int) : ∀ (es : List Eb) (e : Eb), es.foldl (fun o x => if cmp x o = way then x else o) e = e ∨ es.foldl (fun o x => if cmp x o = way then x else o) e ∈ es
 | [], _ => .inl rfl
 | x :: es, e => by
   simp only [List.foldl_cons]
   rcases pick_mem way es (if cmp x e = way then x else e) with h | h
   · rw [h]; split
     · exact .inr (by simp)
     · exact .inl rfl
   · exact .inr (by simp [h])
end Eb
structure Es where
 lo : Eb
 hi : Eb
namespace Es
def neg (a : Es) : Es := ⟨a.hi.neg, a.lo.neg⟩
def add (a b : Es) : Es := ⟨a.lo.add b.lo, a.hi.add b.hi⟩
def prods (a b : Es) : List Eb := [a.lo.mul b.lo, a.lo.mul b.hi, a.hi.mul b.lo, a.hi.mul b.hi]
def mul (a b : Es) : Es := ⟨Eb.pick (-1) (prods a b), Eb.pick 1 (prods a b)⟩
def zero (a : Es) : Bool := decide (a.lo.sign ≤ 0) && decide (0 ≤ a.hi.sign)
end Es
structure Sk where
 lo : Int
 hi : Int
deriving DecidableEq
def fkq (k : Int) : Rat := (kz k : Rat) / ((2 ^ 1074 : Nat) : Rat)
def endE (k : Int) : Eb := if k = (infR : Int) then ⟨1, 0⟩ else if k = -(infR : Int) then ⟨-1, 0⟩ else ⟨0, fkq k⟩
theorem endE_ok (k : Int) : (endE k).ok := by
 unfold endE; split
 · exact .inr ⟨rfl, .inl rfl⟩
 · split
   · exact .inr ⟨rfl, .inr rfl⟩
   · exact .inl rfl
def Sk.set (s : Sk) : Es := ⟨endE s.lo, endE s.hi⟩
def Es.span (a : Es) : Sk := ⟨if a.lo.inf = 0 then belowK a.lo.x else -(infR : Int), if a.hi.inf = 0 then aboveK a.hi.x else (infR : Int)⟩
def inK (k : Int) : Prop := -(infR : Int) ≤ k ∧ k ≤ (infR : Int)
theorem belowK_in (q : Rat) : inK (belowK q) := by
 have hd : 0 < q.den := by have := q.den_nz; omega
 have h1 := (downK_spec (n := q.num.natAbs) hd).lt
 have h2 := (upK_spec (n := q.num.natAbs) hd).le
 unfold belowK inK; split <;> omega
theorem aboveK_in (q : Rat) : inK (aboveK q) := by
 have hd : 0 < q.den := by have := q.den_nz; omega
 have h1 := (downK_spec (n := q.num.natAbs) hd).lt
 have h2 := (upK_spec (n := q.num.natAbs) hd).le
 unfold aboveK inK; split <;> omega
structure Sk.ok (s : Sk) : Prop where
 lo : inK s.lo
 hi : inK s.hi
theorem Es.span_ok (a : Es) : a.span.ok := by
 refine ⟨?_, ?_⟩
 · unfold Es.span; dsimp only; split
   · exact belowK_in _
   · unfold inK; omega
 · unfold Es.span; dsimp only; split
   · exact aboveK_in _
   · unfold inK; omega

def U64 (n : Int) : Prop := 0 ≤ n ∧ n < 18446744073709551616
theorem U64.nat {n : Int} (h : U64 n) : ∃ k : Nat, n = k ∧ k < 2 ^ 64 := by
 obtain ⟨h1, h2⟩ := h
 exact ⟨n.toNat, by omega, by omega⟩
def SidesV.u64 (x : SidesV) : Prop := U64 x.re.lo ∧ U64 x.re.hi ∧ U64 x.im.lo ∧ U64 x.im.hi
deriving instance DecidableEq for SpV
deriving instance DecidableEq for BoxV
def Sk.v (k : Sk) : SpV := ⟨wordK k.lo, wordK k.hi⟩
def Sk.neg (s : Sk) : Sk := ⟨-s.hi, -s.lo⟩
def Sk.hull (s t : Sk) : Sk := ⟨min s.lo t.lo, max s.hi t.hi⟩
def Sk.meet (s t : Sk) : Sk := ⟨max s.lo t.lo, min s.hi t.hi⟩
def Sk.nonempty (s : Sk) : Bool := decide (s.lo ≤ s.hi)
def Sk.isIn (s t : Sk) : Bool := decide (t.lo ≤ s.lo) && decide (s.hi ≤ t.hi)
def Sk.has (s : Sk) (q : Rat) : Bool := decide ((endE s.lo).cmp ⟨0, q⟩ ≤ 0) && decide ((⟨0, q⟩ : Eb).cmp (endE s.hi) ≤ 0)
theorem Sk.neg_ok {s : Sk} (h : s.ok) : s.neg.ok := by
 have a := h.lo; have b := h.hi
 unfold inK at a b
 exact ⟨by unfold inK Sk.neg; dsimp only; omega, by unfold inK Sk.neg; dsimp only; omega⟩
theorem Sk.hull_ok {s t : Sk} (h : s.ok) (k : t.ok) : (s.hull t).ok := by
 have a := h.lo; have b := h.hi; have c := k.lo; have d := k.hi
 unfold inK at a b c d
 exact ⟨by unfold inK Sk.hull; dsimp only; omega, by unfold inK Sk.hull; dsimp only; omega⟩
theorem Sk.meet_ok {s t : Sk} (h : s.ok) (k : t.ok) : (s.meet t).ok := by
 have a := h.lo; have b := h.hi; have c := k.lo; have d := k.hi
 unfold inK at a b c d
 exact ⟨by unfold inK Sk.meet; dsimp only; omega, by unfold inK Sk.meet; dsimp only; omega⟩
def mkE (x y : Nat) : Int := if ¬ okW x ∨ ¬ okW y ∨ key x = (infR : Int) ∨ key y = -(infR : Int) then 1 else if key y < key x then 7 else 0
def Sk.nil : Sk := ⟨0, 0⟩
theorem zero_in : inK 0 := by unfold inK infR; omega
theorem Sk.nil_ok : Sk.nil.ok := ⟨zero_in, zero_in⟩
theorem Sk.nil_v : Sk.nil.v = SpV.mk 0 0 := rfl
def mkS (x y : Nat) : Sk := if mkE x y = 0 then ⟨key x, key y⟩ else Sk.nil
theorem mkE_zero {x y : Nat} (h : mkE x y = 0) : okW x ∧ okW y ∧ key x ≤ key y := by
 unfold mkE at h
 split at h
 · simp at h
 · rename_i c
   split at h
   · simp at h
   · have c1 : okW x := Classical.byContradiction fun q => c (.inl q)
     have c2 : okW y := Classical.byContradiction fun q => c (.inr (.inl q))
     exact ⟨c1, c2, by omega⟩
theorem key_in {x : Nat} (h : okW x) : inK (key x) := by
 obtain ⟨h1, h2⟩ := h
 unfold inK key infR at *; split <;> omega
def Sk.proper (s : Sk) : Prop := s.lo ≤ s.hi ∧ s.lo ≠ (infR : Int) ∧ s.hi ≠ -(infR : Int)
theorem mkE_proper {x y : Nat} (h : mkE x y = 0) : (mkS x y).proper := by
 have hle := (mkE_zero h).2.2
 unfold mkS; rw [if_pos h]
 unfold mkE at h
 split at h
 · simp at h
 · rename_i c
   exact ⟨hle, fun e => c (.inr (.inr (.inl e))), fun e => c (.inr (.inr (.inr e)))⟩
theorem mkS_ok (x y : Nat) : (mkS x y).ok := by
 unfold mkS; split
 · rename_i h
   obtain ⟨a, b, _⟩ := mkE_zero h
   exact ⟨key_in a, key_in b⟩
 · exact Sk.nil_ok
theorem okK {k : Int} (h : inK k) : okW (wordK k) := wordK_ok h.1 h.2
theorem keyK {k : Int} (h : inK k) : key (wordK k) = k := key_wordK h.1 h.2
theorem fmax_key {a b : Int} (ha : inK a) (hb : inK b) : fmax .f64 (wordK a) (wordK b) = wordK (max a b) := by
 unfold fmax
 rw [order_key (okK ha) (okK hb), keyK ha, keyK hb]
 rcases Int.lt_trichotomy a b with h | h | h
 · rw [show compare a b = .lt from Int.compare_eq_lt.2 h]; dsimp only; rw [Int.max_eq_right (by omega)]
 · subst h; rw [show compare a a = .eq from Int.compare_eq_eq.2 rfl]; dsimp only; rw [Int.max_eq_left (by omega)]; split <;> rfl
 · rw [show compare a b = .gt from Int.compare_eq_gt.2 h]; dsimp only; rw [Int.max_eq_left (by omega)]
theorem fmin_key {a b : Int} (ha : inK a) (hb : inK b) : fmin .f64 (wordK a) (wordK b) = wordK (min a b) := by
 unfold fmin
 rw [order_key (okK ha) (okK hb), keyK ha, keyK hb]
 rcases Int.lt_trichotomy a b with h | h | h
 · rw [show compare a b = .lt from Int.compare_eq_lt.2 h]; dsimp only; rw [Int.min_eq_left (by omega)]
 · subst h; rw [show compare a a = .eq from Int.compare_eq_eq.2 rfl]; dsimp only; rw [Int.min_eq_left (by omega)]; split <;> rfl
 · rw [show compare a b = .gt from Int.compare_eq_gt.2 h]; dsimp only; rw [Int.min_eq_right (by omega)]
theorem order_some {a b : Int} (ha : inK a) (hb : inK b) : (FloatKind.f64.format.order (wordK a) (wordK b)).isSome = true := by
 rw [order_key (okK ha) (okK hb)]; rfl
theorem leK {a b : Int} (ha : inK a) (hb : inK b) : ((FloatKind.f64.format.order (wordK a) (wordK b) == some .lt) || (FloatKind.f64.format.order (wordK a) (wordK b) == some .eq)) = decide (a ≤ b) := by
 rw [ord_le (okK ha) (okK hb), keyK ha, keyK hb]
theorem ltK {a b : Int} (ha : inK a) (hb : inK b) : (FloatKind.f64.format.order (wordK a) (wordK b) == some .lt) = decide (a < b) := by
 rw [ord_lt (okK ha) (okK hb), keyK ha, keyK hb]
structure Bk where
 re : Sk
 im : Sk
deriving DecidableEq
structure Bk.ok (b : Bk) : Prop where
 re : b.re.ok
 im : b.im.ok
def Bk.proper (b : Bk) : Prop := b.re.proper ∧ b.im.proper
def Bk.v (b : Bk) : BoxV := ⟨b.re.v, b.im.v⟩
def Bk.nil : Bk := ⟨Sk.nil, Sk.nil⟩
theorem Bk.nil_ok : Bk.nil.ok := ⟨Sk.nil_ok, Sk.nil_ok⟩
def mkBE (a b c d : Nat) : Int := if mkE a c = 1 ∨ mkE b d = 1 then 1 else if mkE a c ≠ 0 ∨ mkE b d ≠ 0 then 7 else 0
def mkB (a b c d : Nat) : Bk := if mkBE a b c d = 0 then ⟨mkS a c, mkS b d⟩ else Bk.nil
theorem mkB_ok (a b c d : Nat) : (mkB a b c d).ok := by
 unfold mkB; split
 · exact ⟨mkS_ok _ _, mkS_ok _ _⟩
 · exact Bk.nil_ok
def Bk.mul (b c : Bk) : Bk :=
 ⟨((b.re.set.mul c.re.set).add (b.im.set.mul c.im.set).neg).span, ((b.re.set.mul c.im.set).add (b.im.set.mul c.re.set)).span⟩
def Bk.neg (b : Bk) : Bk := ⟨b.re.neg, b.im.neg⟩
def Bk.hull (b c : Bk) : Bk := ⟨b.re.hull c.re, b.im.hull c.im⟩
def Bk.isIn (b c : Bk) : Bool := b.re.isIn c.re && b.im.isIn c.im
def Bk.meets (b c : Bk) : Bool := (b.re.meet c.re).nonempty && (b.im.meet c.im).nonempty
def Bk.meet (b c : Bk) : Bk := if b.meets c then ⟨b.re.meet c.re, b.im.meet c.im⟩ else Bk.nil
def Bk.has (b : Bk) (z : Cq) : Bool := b.re.has z.re && b.im.has z.im

def shareV (a b : Eb) : Eb := if a.inf ≠ 0 ∨ b.inf ≠ 0 then ⟨0, 0⟩ else ⟨0, a.x / (a.x * a.x + b.x * b.x)⟩
def rowZ (y : Es) (a : Eb) : List Eb := if y.zero = true ∧ a.sign ≠ 0 then [shareV a (Eb.fin 0)] else []
def rowA (y : Es) (a : Eb) : List Eb := [shareV a y.lo, shareV a y.hi] ++ rowZ y a
def colB (x : Es) (b a : Eb) : List Eb := if b.inf = 0 ∧ b.sign ≠ 0 ∧ x.lo.cmp a ≤ 0 ∧ a.cmp x.hi ≤ 0 then [shareV a b] else []
def rowB (x : Es) (b : Eb) : List Eb := colB x b b ++ colB x b b.neg
def at2 (a b : Eb) : Nat → Eb
 | 0 => a
 | _ => b
def preA (x y : Es) : Nat → List Eb
 | 0 => []
 | 1 => rowA y x.lo
 | _ => rowA y x.lo ++ rowA y x.hi
def preB (x y : Es) : Nat → List Eb
 | 0 => preA x y 2
 | 1 => preA x y 2 ++ rowB x y.lo
 | _ => preA x y 2 ++ (rowB x y.lo ++ rowB x y.hi)
def shareL (x y : Es) : List Eb := preB x y 2
def Es.share (x y : Es) : Es := ⟨Eb.pick (-1) (shareL x y), Eb.pick 1 (shareL x y)⟩
theorem preA_succ (x y : Es) {i : Nat} (h : i < 2) : preA x y i ++ rowA y (at2 x.lo x.hi i) = preA x y (i + 1) := by
 rcases (by omega : i = 0 ∨ i = 1) with rfl | rfl
 · simp [preA, at2]
 · simp [preA, at2]
theorem preB_succ (x y : Es) {i : Nat} (h : i < 2) : preB x y i ++ rowB x (at2 y.lo y.hi i) = preB x y (i + 1) := by
 rcases (by omega : i = 0 ∨ i = 1) with rfl | rfl
 · simp [preB, at2]
 · simp [preB, at2]
def inA (y : Es) (a : Eb) : Nat → List Eb
 | 0 => []
 | 1 => [shareV a y.lo]
 | _ => [shareV a y.lo, shareV a y.hi]
theorem inA_succ (y : Es) (a : Eb) {j : Nat} (h : j < 2) : inA y a j ++ [shareV a (at2 y.lo y.hi j)] = inA y a (j + 1) := by
 rcases (by omega : j = 0 ∨ j = 1) with rfl | rfl <;> rfl
def inB (x : Es) (b : Eb) : Nat → List Eb
 | 0 => []
 | 1 => colB x b b
 | _ => colB x b b ++ colB x b b.neg
theorem inB_succ (x : Es) (b : Eb) {j : Nat} (h : j < 2) : inB x b j ++ colB x b (at2 b b.neg j) = inB x b (j + 1) := by
 rcases (by omega : j = 0 ∨ j = 1) with rfl | rfl
 · simp [inB, at2]
 · simp [inB, at2]
theorem rowZ_len (y : Es) (a : Eb) : (rowZ y a).length ≤ 1 := by unfold rowZ; split <;> simp
theorem rowA_len (y : Es) (a : Eb) : (rowA y a).length ≤ 3 := by
 have := rowZ_len y a
 unfold rowA; simp only [List.length_append, List.length_cons, List.length_nil]; omega
theorem colB_len (x : Es) (b a : Eb) : (colB x b a).length ≤ 1 := by unfold colB; split <;> simp
theorem rowB_len (x : Es) (b : Eb) : (rowB x b).length ≤ 2 := by
 have h1 := colB_len x b b; have h2 := colB_len x b b.neg
 unfold rowB; simp only [List.length_append]; omega
theorem preA_len (x y : Es) (i : Nat) : (preA x y i).length ≤ 6 := by
 have h1 := rowA_len y x.lo; have h2 := rowA_len y x.hi
 match i with
 | 0 => simp [preA]
 | 1 => simp only [preA]; omega
 | _ + 2 => simp only [preA, List.length_append]; omega
theorem preB_len (x y : Es) (i : Nat) : (preB x y i).length ≤ 10 := by
 have h1 := rowB_len x y.lo; have h2 := rowB_len x y.hi; have h3 := preA_len x y 2
 match i with
 | 0 => simp only [preB]; omega
 | 1 => simp only [preB, List.length_append]; omega
 | _ + 2 => simp only [preB, List.length_append]; omega
theorem inA_len (y : Es) (a : Eb) (j : Nat) : (inA y a j).length ≤ 2 := by
 match j with
 | 0 => simp [inA]
 | 1 => simp [inA]
 | _ + 2 => simp [inA]
theorem inB_len (x : Es) (b : Eb) (j : Nat) : (inB x b j).length ≤ 2 := by
 have h1 := colB_len x b b; have h2 := colB_len x b b.neg
 match j with
 | 0 => simp [inB]
 | 1 => simp only [inB]; omega
 | _ + 2 => simp only [inB, List.length_append]; omega
theorem shareL_ne (x y : Es) : shareL x y ≠ [] := by
 simp [shareL, preB, preA, rowA]

def Bk.clear (b : Bk) : Bool := !b.has Cq.zero
def Bk.invB (b : Bk) : Bk := ⟨(b.re.set.share b.im.set).span, (b.im.set.share b.re.set).neg.span⟩
def Bk.inv (b : Bk) : Bk := if b.clear then b.invB else Bk.nil
def Bk.invE (b : Bk) : Int := if b.clear then 0 else 3
theorem Bk.inv_ok (b : Bk) : b.inv.ok := by
 unfold Bk.inv; split
 · exact ⟨Es.span_ok _, Es.span_ok _⟩
 · exact Bk.nil_ok
def awB : Bk := ⟨⟨4607182418800017408, 4611686018427387904⟩, ⟨0, 4607182418800017408⟩⟩
def awP : Bk := ⟨⟨0, 4616189618054758400⟩, ⟨0, 4616189618054758400⟩⟩
theorem aw_make : mkB 4607182418800017408 0 4611686018427387904 4607182418800017408 = awB ∧ mkBE 4607182418800017408 0 4611686018427387904 4607182418800017408 = 0 := by decide +kernel
theorem aw_mul : awB.mul awB = awP := by decide +kernel
theorem aw_clear : awB.clear = true ∧ awP.clear = false := by decide +kernel
theorem aw_inv : awB.invB.im.lo = -4602678819172646912 ∧ awB.invB.re.hi = 4607182418800017408 := by decide +kernel

namespace Eb
def LT (a b : Eb) : Prop := a.inf < b.inf ∨ (a.inf = 0 ∧ b.inf = 0 ∧ a.x < b.x)
theorem cmp_neg1 {a b : Eb} : cmp a b = -1 ↔ LT a b := by
 unfold cmp LT cmpZ cmpR
 by_cases h : a.inf ≠ 0 ∨ b.inf ≠ 0
 · rw [if_pos h]
   constructor
   · intro e
     left
     split at e
     · assumption
     · split at e <;> simp at e
   · rintro (e | ⟨e1, e2, _⟩)
     · rw [if_pos e]
     · exfalso; omega
 · rw [if_neg h]
   have h1 : a.inf = 0 := by omega
   have h2 : b.inf = 0 := by omega
   constructor
   · intro e
     refine .inr ⟨h1, h2, ?_⟩
     split at e
     · assumption
     · split at e <;> simp at e
   · rintro (e | ⟨_, _, e⟩)
     · exfalso; omega
     · rw [if_pos e]
theorem cmp_1 {a b : Eb} : cmp a b = 1 ↔ LT b a := by
 unfold cmp LT cmpZ cmpR
 by_cases h : a.inf ≠ 0 ∨ b.inf ≠ 0
 · rw [if_pos h]
   constructor
   · intro e
     left
     split at e
     · simp at e
     · split at e
       · simp at e
       · omega
   · rintro (e | ⟨e1, e2, _⟩)
     · rw [if_neg (by omega), if_neg (by omega)]
     · exfalso; omega
 · rw [if_neg h]
   have h1 : a.inf = 0 := by omega
   have h2 : b.inf = 0 := by omega
   constructor
   · intro e
     refine .inr ⟨h2, h1, ?_⟩
     split at e
     · simp at e
     · split at e
       · simp at e
       · grind
   · rintro (e | ⟨_, _, e⟩)
     · exfalso; omega
     · rw [if_neg (by grind), if_neg (by grind)]
theorem LT.trans {a b c : Eb} (h : LT a b) (k : LT b c) : LT a c := by
 unfold LT at *
 rcases h with h | ⟨h1, h2, h3⟩ <;> rcases k with k | ⟨k1, k2, k3⟩
 · left; omega
 · left; omega
 · left; omega
 · right; exact ⟨h1, k2, by grind⟩
theorem LT.weak {a b c : Eb} (h : LT a c) : LT a b ∨ LT b c := by
 unfold LT at *
 rcases h with h | ⟨h1, h2, h3⟩
 · by_cases q : a.inf < b.inf
   · exact .inl (.inl q)
   · exact .inr (.inl (by omega))
 · rcases Int.lt_trichotomy b.inf 0 with q | q | q
   · exact .inr (.inl (by omega))
   · by_cases p : a.x < b.x
     · exact .inl (.inr ⟨h1, q, p⟩)
     · exact .inr (.inr ⟨q, h2, by grind⟩)
   · exact .inl (.inl (by omega))
theorem LT.irrefl {a : Eb} : ¬ LT a a := by
 unfold LT; rintro (h | ⟨_, _, h⟩)
 · omega
 · grind
theorem LT.tri {a b : Eb} (ha : a.ok) (hb : b.ok) (h : ¬ LT a b) (k : ¬ LT b a) : a = b := by
 unfold LT at h k
 have h1 : a.inf = b.inf := by omega
 unfold ok at ha hb
 have h2 : a.x = b.x := by
  by_cases z : a.inf = 0
  · have z2 : b.inf = 0 := by omega
    have p : ¬ a.x < b.x := fun q => h (.inr ⟨z, z2, q⟩)
    have p2 : ¬ b.x < a.x := fun q => k (.inr ⟨z2, z, q⟩)
    grind
  · rcases ha with ha | ha
    · exact absurd ha z
    · rcases hb with hb | hb
      · exact absurd hb (by omega)
      · rw [ha.1, hb.1]
 cases a; cases b; simp at h1 h2; rw [h1, h2]
def W (way : Int) (a b : Eb) : Prop := if way = 1 then LT b a else LT a b
theorem cmp_W {way : Int} (hw : way = 1 ∨ way = -1) {a b : Eb} : cmp a b = way ↔ W way a b := by
 rcases hw with rfl | rfl
 · unfold W; rw [if_pos rfl]; exact cmp_1
 · unfold W; rw [if_neg (by decide)]; exact cmp_neg1
theorem W.trans {way : Int} {a b c : Eb} (h : W way a b) (k : W way b c) : W way a c := by
 unfold W at *
 split at h
 · rename_i e; rw [if_pos e] at k ⊢; exact k.trans h
 · rename_i e; rw [if_neg e] at k ⊢; exact h.trans k
theorem W.weak {way : Int} {a b c : Eb} (h : W way a c) : W way a b ∨ W way b c := by
 unfold W at *
 split at h
 · rename_i e; rw [if_pos e, if_pos e]; exact (LT.weak (b := b) h).symm
 · rename_i e; rw [if_neg e, if_neg e]; exact LT.weak h
theorem W.irrefl {way : Int} {a : Eb} : ¬ W way a a := by unfold W; split <;> exact LT.irrefl
theorem W.tri {way : Int} {a b : Eb} (ha : a.ok) (hb : b.ok) (h : ¬ W way a b) (k : ¬ W way b a) : a = b := by
 unfold W at h k
 split at h
 · rename_i e; rw [if_pos e] at k; exact LT.tri ha hb k h
 · rename_i e; rw [if_neg e] at k; exact LT.tri ha hb h k
theorem fold_first {way : Int} (hw : way = 1 ∨ way = -1) : ∀ (es : List Eb) (o : Eb), ¬ W way o (es.foldl (fun o x => if cmp x o = way then x else o) o) ∧ ∀ e ∈ es, ¬ W way e (es.foldl (fun o x => if cmp x o = way then x else o) o)
 | [], o => ⟨W.irrefl, by simp⟩
 | x :: es, o => by
   simp only [List.foldl_cons]
   have ih := fold_first hw es (if cmp x o = way then x else o)
   by_cases h : cmp x o = way
   · rw [if_pos h] at ih ⊢
     have hx := (cmp_W hw).1 h
     refine ⟨fun g => ih.1 (hx.trans g), fun e he => ?_⟩
     rcases List.mem_cons.1 he with rfl | he
     · exact ih.1
     · exact ih.2 e he
   · rw [if_neg h] at ih ⊢
     refine ⟨ih.1, fun e he => ?_⟩
     rcases List.mem_cons.1 he with rfl | he
     · intro g
       have hxo : ¬ W way e o := fun q2 => h ((cmp_W hw).2 q2)
       exact (W.weak (b := o) g).elim hxo ih.1
     · exact ih.2 e he
theorem pick_first {way : Int} (hw : way = 1 ∨ way = -1) {es : List Eb} : ∀ e ∈ es, ¬ W way e (pick way es) := by
 cases es with
 | nil => simp
 | cons o es =>
   intro e he
   have := fold_first hw es o
   rcases List.mem_cons.1 he with rfl | he
   · exact this.1
   · exact this.2 e he
theorem pick_in {way : Int} {es : List Eb} (h : es ≠ []) : pick way es ∈ es := by
 cases es with
 | nil => exact absurd rfl h
 | cons o es =>
   rcases pick_mem way es o with g | g
   · show List.foldl _ o es ∈ _; rw [g]; simp
   · show List.foldl _ o es ∈ _; exact List.mem_cons_of_mem _ g
theorem pick_ext {way : Int} (hw : way = 1 ∨ way = -1) {es es' : List Eb} (hn : es ≠ []) (hok : ∀ e ∈ es, e.ok) (h : ∀ e, e ∈ es ↔ e ∈ es') : pick way es = pick way es' := by
 have hn' : es' ≠ [] := by
  intro e0
  have := (h _).1 (pick_in (way := way) hn)
  rw [e0] at this; simp at this
 have m1 := pick_in (way := way) hn
 have m2 := (h _).2 (pick_in (way := way) hn')
 exact W.tri (way := way) (hok _ m1) (hok _ m2) (pick_first hw _ ((h _).1 m1)) (pick_first hw _ m2)
theorem neg_neg (a : Eb) : a.neg.neg = a := by
 cases a; unfold neg; simp
theorem LT_neg {a b : Eb} : LT a.neg b.neg ↔ LT b a := by
 unfold LT neg; dsimp only
 constructor
 · rintro (h | ⟨h1, h2, h3⟩)
   · left; omega
   · right; exact ⟨by omega, by omega, by grind⟩
 · rintro (h | ⟨h1, h2, h3⟩)
   · left; omega
   · right; exact ⟨by omega, by omega, by grind⟩
theorem pick_neg {way : Int} (hw : way = 1 ∨ way = -1) {es : List Eb} (hn : es ≠ []) (hok : ∀ e ∈ es, e.ok) : pick way (es.map neg) = (pick (-way) es).neg := by
 have hw' : -way = 1 ∨ -way = -1 := by omega
 have hn' : es.map neg ≠ [] := by simpa using hn
 have m1 := pick_in (way := way) hn'
 obtain ⟨u, hu, hu'⟩ := List.mem_map.1 m1
 have m2 := pick_in (way := -way) hn
 have f1 := pick_first hw (es := es.map neg) _ (List.mem_map.2 ⟨_, m2, rfl⟩)
 have f2 := pick_first hw' (es := es) _ hu
 rw [← hu'] at f1 ⊢
 congr 1
 have flip : ∀ {a b : Eb}, W way a.neg b.neg ↔ W (-way) a b := by
  intro a b
  rcases hw with rfl | rfl
  · unfold W; rw [if_pos rfl, if_neg (by decide)]; exact LT_neg
  · unfold W; rw [if_neg (by decide), if_pos (by decide)]; exact LT_neg
 rw [flip] at f1
 exact W.tri (way := -way) (hok _ hu) (hok _ m2) f2 f1
theorem neg_add (a b : Eb) : (a.add b).neg = a.neg.add b.neg := by
 have h1 : a.neg.inf = -a.inf := rfl
 have h2 : b.neg.inf = -b.inf := rfl
 by_cases c : a.inf = 0
 · have c' : ¬ a.inf ≠ 0 := fun h => h c
   have c2 : ¬ a.neg.inf ≠ 0 := fun h => h (by rw [h1]; omega)
   by_cases d : b.inf = 0
   · have d' : ¬ b.inf ≠ 0 := fun h => h d
     have d2 : ¬ b.neg.inf ≠ 0 := fun h => h (by rw [h2]; omega)
     unfold add
     rw [if_neg c', if_neg c2, if_neg d', if_neg d2]
     show (⟨-0, -(a.x + b.x)⟩ : Eb) = ⟨0, -a.x + -b.x⟩
     congr 1; grind
   · have d2 : b.neg.inf ≠ 0 := by rw [h2]; omega
     unfold add
     rw [if_neg c', if_neg c2, if_pos d, if_pos d2]
 · have c2 : a.neg.inf ≠ 0 := by rw [h1]; omega
   unfold add
   rw [if_pos c, if_pos c2]
theorem cmp_neg (a b : Eb) : cmp a.neg b.neg = -cmp a b := by
 have r1 := cmp_range a.neg b.neg
 have r2 := cmp_range a b
 have e1 : cmp a.neg b.neg = -1 ↔ cmp a b = 1 := by rw [cmp_neg1, cmp_1, LT_neg]
 have e2 : cmp a.neg b.neg = 1 ↔ cmp a b = -1 := by rw [cmp_1, cmp_neg1, LT_neg]
 omega
theorem sign_neg (a : Eb) : a.neg.sign = -a.sign := by
 have : fin 0 = (fin 0).neg := by unfold fin neg; simp
 show cmp a.neg (fin 0) = -cmp a (fin 0)
 conv => lhs; rw [this]
 exact cmp_neg a _
theorem mul_neg (a b : Eb) : a.neg.mul b = (a.mul b).neg := by
 unfold mul
 have h1 : a.neg.inf = -a.inf := rfl
 by_cases c : a.inf = 0 ∧ b.inf = 0
 · rw [if_pos c, if_pos ⟨by omega, c.2⟩]
   show (⟨0, -a.x * b.x⟩ : Eb) = ⟨-0, -(a.x * b.x)⟩
   congr 1; grind
 · rw [if_neg c, if_neg (fun g => c ⟨by omega, g.2⟩), sign_neg]
   show (⟨-a.sign * b.sign, 0⟩ : Eb) = ⟨-(a.sign * b.sign), -0⟩
   congr 1
   · rw [Int.neg_mul]
theorem mul_comm (a b : Eb) : a.mul b = b.mul a := by
 unfold mul
 by_cases c : a.inf = 0 ∧ b.inf = 0
 · rw [if_pos c, if_pos ⟨c.2, c.1⟩]; congr 1; grind
 · rw [if_neg c, if_neg (fun g => c ⟨g.2, g.1⟩)]; congr 1; exact Int.mul_comm _ _
end Eb
theorem Es.neg_neg (a : Es) : a.neg.neg = a := by
 cases a; unfold Es.neg; simp [Eb.neg_neg]
theorem Es.neg_add (a b : Es) : (a.add b).neg = a.neg.add b.neg := by
 unfold Es.neg Es.add; dsimp only; rw [Eb.neg_add, Eb.neg_add]
theorem Es.prods_ok (a b : Es) : ∀ e ∈ Es.prods a b, e.ok := by
 intro e he
 simp only [Es.prods, List.mem_cons, List.not_mem_nil, or_false] at he
 rcases he with rfl | rfl | rfl | rfl <;> exact Eb.mul_ok _ _
theorem Es.prods_ne (a b : Es) : Es.prods a b ≠ [] := by simp [Es.prods]
theorem Es.mul_comm (a b : Es) : a.mul b = b.mul a := by
 have h : ∀ e, e ∈ Es.prods a b ↔ e ∈ Es.prods b a := by
  intro e
  simp only [Es.prods, List.mem_cons, List.not_mem_nil, or_false, Eb.mul_comm b.lo, Eb.mul_comm b.hi]
  constructor
  · rintro (h | h | h | h)
    · exact .inl h
    · exact .inr (.inr (.inl h))
    · exact .inr (.inl h)
    · exact .inr (.inr (.inr h))
  · rintro (h | h | h | h)
    · exact .inl h
    · exact .inr (.inr (.inl h))
    · exact .inr (.inl h)
    · exact .inr (.inr (.inr h))
 unfold Es.mul
 rw [Eb.pick_ext (.inr rfl) (Es.prods_ne a b) (Es.prods_ok a b) h, Eb.pick_ext (.inl rfl) (Es.prods_ne a b) (Es.prods_ok a b) h]
theorem Es.neg_mul (a b : Es) : a.neg.mul b = (a.mul b).neg := by
 have h : ∀ e, e ∈ Es.prods a.neg b ↔ e ∈ (Es.prods a b).map Eb.neg := by
  intro e
  simp only [Es.prods, Es.neg, List.map_cons, List.map_nil, List.mem_cons, List.not_mem_nil, or_false, Eb.mul_neg]
  constructor
  · rintro (h | h | h | h)
    · exact .inr (.inr (.inl h))
    · exact .inr (.inr (.inr h))
    · exact .inl h
    · exact .inr (.inl h)
  · rintro (h | h | h | h)
    · exact .inr (.inr (.inl h))
    · exact .inr (.inr (.inr h))
    · exact .inl h
    · exact .inr (.inl h)
 have p1 := Eb.pick_ext (way := -1) (.inr rfl) (Es.prods_ne a.neg b) (Es.prods_ok a.neg b) h
 have p2 := Eb.pick_ext (way := 1) (.inl rfl) (Es.prods_ne a.neg b) (Es.prods_ok a.neg b) h
 rw [Eb.pick_neg (.inr rfl) (Es.prods_ne a b) (Es.prods_ok a b)] at p1
 rw [Eb.pick_neg (.inl rfl) (Es.prods_ne a b) (Es.prods_ok a b)] at p2
 unfold Es.mul; rw [p1, p2]; rfl
theorem Es.mul_neg (a b : Es) : a.mul b.neg = (a.mul b).neg := by rw [Es.mul_comm, Es.neg_mul, Es.mul_comm]
theorem downK_zero (d : Nat) : downK 0 d = 0 := rfl
theorem upK_zero (d : Nat) : upK 0 d = 0 := rfl
theorem belowK_neg (q : Rat) : belowK (-q) = -aboveK q := by
 unfold belowK aboveK
 have hn : (-q).num = -q.num := rfl
 have hd : (-q).den = q.den := rfl
 rw [hn, hd]
 rcases Int.lt_trichotomy q.num 0 with h | h | h
 · rw [if_pos (by omega), if_neg (by omega), Int.natAbs_neg, Int.neg_neg]
 · rw [h]; rw [if_pos (by decide), if_pos (by decide)]; show ((downK 0 q.den : Nat) : Int) = -((upK 0 q.den : Nat) : Int); rw [downK_zero, upK_zero]; rfl
 · rw [if_neg (by omega), if_pos (by omega), Int.natAbs_neg]
theorem aboveK_neg (q : Rat) : aboveK (-q) = -belowK q := by
 have := belowK_neg (-q)
 rw [Rat.neg_neg] at this
 omega
theorem Es.span_neg (a : Es) : a.neg.span = a.span.neg := by
 unfold Es.span Es.neg Sk.neg Eb.neg
 dsimp only
 rw [belowK_neg, aboveK_neg]
 congr 1
 · by_cases h : a.hi.inf = 0
   · rw [if_pos (by omega), if_pos h]
   · rw [if_neg (by omega), if_neg h]
 · by_cases h : a.lo.inf = 0
   · rw [if_pos (by omega), if_pos h]
   · rw [if_neg (by omega), if_neg h, Int.neg_neg]
theorem fkq_neg (k : Int) : fkq (-k) = -fkq k := by
 unfold fkq; rw [kz_neg, Rat.intCast_neg, Rat.div_def, Rat.div_def, Rat.neg_mul]
theorem endE_neg (k : Int) : endE (-k) = (endE k).neg := by
 have h0 : (infR : Int) ≠ 0 := by unfold infR; decide
 unfold endE
 by_cases h : k = (infR : Int)
 · rw [if_neg (by omega), if_pos (by omega), if_pos h]; rfl
 · by_cases g : k = -(infR : Int)
   · rw [if_pos (by omega), if_neg h, if_pos g]; rfl
   · rw [if_neg (by omega), if_neg (by omega), if_neg h, if_neg g, fkq_neg]; rfl
theorem Sk.set_neg (s : Sk) : s.neg.set = s.set.neg := by
 unfold Sk.set Sk.neg Es.neg; dsimp only; rw [endE_neg, endE_neg]
theorem Eb.cmp_anti (a b : Eb) : Eb.cmp b a = -Eb.cmp a b := by
 have r1 := Eb.cmp_range a b
 have r2 := Eb.cmp_range b a
 have e1 : Eb.cmp a b = -1 ↔ Eb.cmp b a = 1 := by rw [Eb.cmp_neg1, Eb.cmp_1]
 have e2 : Eb.cmp a b = 1 ↔ Eb.cmp b a = -1 := by rw [Eb.cmp_1, Eb.cmp_neg1]
 omega
theorem shareV_neg_l (a b : Eb) : shareV a.neg b = (shareV a b).neg := by
 have h : a.neg.inf = -a.inf := rfl
 unfold shareV
 by_cases c : a.inf ≠ 0 ∨ b.inf ≠ 0
 · rw [if_pos c, if_pos (by rw [h]; omega)]; unfold Eb.neg; simp
 · rw [if_neg c, if_neg (by rw [h]; omega)]
   show (⟨0, -a.x / (-a.x * -a.x + b.x * b.x)⟩ : Eb) = ⟨-0, -(a.x / (a.x * a.x + b.x * b.x))⟩
   have : -a.x * -a.x = a.x * a.x := by grind
   rw [this, Rat.div_def, Rat.div_def, Rat.neg_mul]; rfl
theorem shareV_ok (a b : Eb) : (shareV a b).ok := by unfold shareV; split <;> exact .inl rfl
theorem Es.zero_neg (y : Es) : y.neg.zero = y.zero := by
 unfold Es.zero Es.neg; dsimp only
 rw [Eb.sign_neg, Eb.sign_neg, Bool.and_comm]
 congr 1 <;> (apply decide_eq_decide.2; omega)
theorem rowZ_neg_l (y : Es) (a : Eb) : rowZ y a.neg = (rowZ y a).map Eb.neg := by
 unfold rowZ; rw [Eb.sign_neg]
 by_cases c : y.zero = true ∧ a.sign ≠ 0
 · rw [if_pos c, if_pos ⟨c.1, by omega⟩, shareV_neg_l]; rfl
 · rw [if_neg c, if_neg (fun h => c ⟨h.1, by omega⟩)]; rfl
theorem colB_neg_x (x : Es) (b a : Eb) : colB x.neg b a.neg = (colB x b a).map Eb.neg := by
 unfold colB Es.neg; dsimp only
 rw [Eb.cmp_neg, Eb.cmp_neg, shareV_neg_l]
 have h1 := Eb.cmp_anti x.hi a
 have h2 := Eb.cmp_anti x.lo a
 by_cases c : b.inf = 0 ∧ b.sign ≠ 0 ∧ x.lo.cmp a ≤ 0 ∧ a.cmp x.hi ≤ 0
 · rw [if_pos c, if_pos ⟨c.1, c.2.1, by omega, by omega⟩]; rfl
 · rw [if_neg c, if_neg (fun h => c ⟨h.1, h.2.1, by omega, by omega⟩)]; rfl
theorem shareL_mem (x y : Es) (e : Eb) : e ∈ shareL x y ↔ (e ∈ rowA y x.lo ∨ e ∈ rowA y x.hi) ∨ e ∈ rowB x y.lo ∨ e ∈ rowB x y.hi := by
 simp only [shareL, preB, preA, List.mem_append]
theorem rowA_mem (y : Es) (a e : Eb) : e ∈ rowA y a ↔ e = shareV a y.lo ∨ e = shareV a y.hi ∨ e ∈ rowZ y a := by
 simp only [rowA, List.cons_append, List.nil_append, List.mem_cons]
theorem rowB_mem (x : Es) (b e : Eb) : e ∈ rowB x b ↔ e ∈ colB x b b ∨ e ∈ colB x b b.neg := by simp only [rowB, List.mem_append]
theorem shareL_ok (x y : Es) : ∀ e ∈ shareL x y, e.ok := by
 intro e he
 have hz : ∀ {y a}, e ∈ rowZ y a → e.ok := by
  intro y a h; unfold rowZ at h; split at h
  · simp at h; subst h; exact shareV_ok _ _
  · simp at h
 have hb : ∀ {x b a}, e ∈ colB x b a → e.ok := by
  intro x b a h; unfold colB at h; split at h
  · simp at h; subst h; exact shareV_ok _ _
  · simp at h
 have ha : ∀ {y a}, e ∈ rowA y a → e.ok := by
  intro y a h; rw [rowA_mem] at h
  rcases h with rfl | rfl | h
  · exact shareV_ok _ _
  · exact shareV_ok _ _
  · exact hz h
 have hB : ∀ {x b}, e ∈ rowB x b → e.ok := by
  intro x b h; rw [rowB_mem] at h
  rcases h with h | h <;> exact hb h
 rw [shareL_mem] at he
 rcases he with (h | h) | h | h
 · exact ha h
 · exact ha h
 · exact hB h
 · exact hB h
theorem mem_neg {e : Eb} {l : List Eb} : e ∈ l.map Eb.neg ↔ e.neg ∈ l := by
 constructor
 · intro h
   obtain ⟨u, hu, rfl⟩ := List.mem_map.1 h
   rw [Eb.neg_neg]; exact hu
 · intro h; exact List.mem_map.2 ⟨_, h, Eb.neg_neg e⟩
theorem share_neg_l (x y : Es) : x.neg.share y = (x.share y).neg := by
 have ng : ∀ {e u : Eb}, e = u.neg ↔ e.neg = u := by
  intro e u; constructor
  · rintro rfl; exact Eb.neg_neg u
  · rintro rfl; exact (Eb.neg_neg e).symm
 have hA : ∀ a e, e ∈ rowA y a.neg ↔ e.neg ∈ rowA y a := by
  intro a e
  rw [rowA_mem, rowA_mem, rowZ_neg_l, shareV_neg_l, shareV_neg_l, mem_neg, ng, ng]
 have hB : ∀ b e, e ∈ rowB x.neg b ↔ e.neg ∈ rowB x b := by
  intro b e
  rw [rowB_mem, rowB_mem]
  have e1 : colB x.neg b b = (colB x b b.neg).map Eb.neg := by
   have := colB_neg_x x b b.neg
   rw [Eb.neg_neg] at this; exact this
  rw [e1, colB_neg_x, mem_neg, mem_neg]; exact Or.comm
 have h : ∀ e, e ∈ shareL x.neg y ↔ e ∈ (shareL x y).map Eb.neg := by
  intro e
  rw [mem_neg, shareL_mem, shareL_mem, hB, hB]
  show ((e ∈ rowA y x.hi.neg ∨ e ∈ rowA y x.lo.neg) ∨ _) ↔ _
  rw [hA, hA]
  constructor
  · rintro ((h | h) | h)
    · exact .inl (.inr h)
    · exact .inl (.inl h)
    · exact .inr h
  · rintro ((h | h) | h)
    · exact .inl (.inr h)
    · exact .inl (.inl h)
    · exact .inr h
 have p1 := Eb.pick_ext (way := -1) (.inr rfl) (shareL_ne x.neg y) (shareL_ok x.neg y) h
 have p2 := Eb.pick_ext (way := 1) (.inl rfl) (shareL_ne x.neg y) (shareL_ok x.neg y) h
 rw [Eb.pick_neg (.inr rfl) (shareL_ne x y) (shareL_ok x y)] at p1
 rw [Eb.pick_neg (.inl rfl) (shareL_ne x y) (shareL_ok x y)] at p2
 unfold Es.share; rw [p1, p2]; rfl
def Bk.add (b c : Bk) : Bk := ⟨(b.re.set.add c.re.set).span, (b.im.set.add c.im.set).span⟩
def Bk.sub (b c : Bk) : Bk := ⟨(b.re.set.add c.re.set.neg).span, (b.im.set.add c.im.set.neg).span⟩
theorem Eb.add_comm {a b : Eb} (h : a.inf ≠ 0 → b.inf ≠ 0 → a = b) : a.add b = b.add a := by
 unfold Eb.add
 by_cases c : a.inf ≠ 0
 · by_cases d : b.inf ≠ 0
   · rw [h c d]
   · rw [if_pos c, if_neg d, if_pos c]
 · by_cases d : b.inf ≠ 0
   · rw [if_neg c, if_pos d, if_pos d]
   · rw [if_neg c, if_neg d, if_neg d, if_neg c]; congr 1; grind
theorem endE_lo {k : Int} (h : k ≠ (infR : Int)) (h0 : (endE k).inf ≠ 0) : endE k = ⟨-1, 0⟩ := by
 unfold endE at h0 ⊢
 rw [if_neg h] at h0 ⊢
 split at h0
 · rename_i g; rw [if_pos g]
 · exact absurd rfl h0
theorem endE_hi {k : Int} (h : k ≠ -(infR : Int)) (h0 : (endE k).inf ≠ 0) : endE k = ⟨1, 0⟩ := by
 unfold endE at h0 ⊢
 split at h0
 · rename_i g; rw [if_pos g]
 · exact absurd rfl h0
theorem Sk.add_comm {s t : Sk} (hs : s.proper) (ht : t.proper) : s.set.add t.set = t.set.add s.set := by
 have h1 : (endE s.lo).add (endE t.lo) = (endE t.lo).add (endE s.lo) := Eb.add_comm fun p q => by rw [endE_lo hs.2.1 p, endE_lo ht.2.1 q]
 have h2 : (endE s.hi).add (endE t.hi) = (endE t.hi).add (endE s.hi) := Eb.add_comm fun p q => by rw [endE_hi hs.2.2 p, endE_hi ht.2.2 q]
 unfold Es.add Sk.set; dsimp only
 rw [h1, h2]
theorem Bk.add_comm {b c : Bk} (hb : b.proper) (hc : c.proper) : b.add c = c.add b := by
 unfold Bk.add; rw [Sk.add_comm hb.1 hc.1, Sk.add_comm hb.2 hc.2]
theorem Bk.sub_eq (b c : Bk) : b.sub c = b.add c.neg := by
 unfold Bk.sub Bk.add Bk.neg; dsimp only; rw [Sk.set_neg, Sk.set_neg]
theorem Sk.neg_neg (s : Sk) : s.neg.neg = s := by cases s; unfold Sk.neg; simp
theorem Bk.neg_neg (b : Bk) : b.neg.neg = b := by cases b; unfold Bk.neg; dsimp only; rw [Sk.neg_neg, Sk.neg_neg]
theorem Bk.neg_mul (b c : Bk) : b.neg.mul c = (b.mul c).neg := by
 unfold Bk.mul Bk.neg; dsimp only
 rw [Sk.set_neg, Sk.set_neg, Es.neg_mul, Es.neg_mul, Es.neg_mul, Es.neg_mul, ← Es.neg_add, ← Es.neg_add, Es.span_neg, Es.span_neg]
theorem Eb.zero_neg : (⟨0, 0⟩ : Eb).neg = ⟨0, 0⟩ := by unfold Eb.neg; simp
theorem Sk.has_neg (s : Sk) : s.neg.has 0 = s.has 0 := by
 unfold Sk.has Sk.neg; dsimp only
 have e1 : (endE (-s.hi)).cmp ⟨0, 0⟩ = -((endE s.hi).cmp ⟨0, 0⟩) := by
  have := Eb.cmp_neg (endE s.hi) ⟨0, 0⟩
  rw [Eb.zero_neg, ← endE_neg] at this; exact this
 have e2 : (⟨0, 0⟩ : Eb).cmp (endE (-s.lo)) = -((⟨0, 0⟩ : Eb).cmp (endE s.lo)) := by
  have := Eb.cmp_neg ⟨0, 0⟩ (endE s.lo)
  rw [Eb.zero_neg, ← endE_neg] at this; exact this
 have a1 := Eb.cmp_anti (endE s.hi) ⟨0, 0⟩
 have a2 := Eb.cmp_anti (endE s.lo) ⟨0, 0⟩
 rw [e1, e2, Bool.and_comm]
 have d1 : decide (-((⟨0, 0⟩ : Eb).cmp (endE s.lo)) ≤ 0) = decide ((endE s.lo).cmp ⟨0, 0⟩ ≤ 0) := decide_eq_decide.2 (by omega)
 have d2 : decide (-((endE s.hi).cmp ⟨0, 0⟩) ≤ 0) = decide ((⟨0, 0⟩ : Eb).cmp (endE s.hi) ≤ 0) := decide_eq_decide.2 (by omega)
 rw [d1, d2]
theorem Bk.add_ok (b c : Bk) : (b.add c).ok := ⟨Es.span_ok _, Es.span_ok _⟩
theorem Bk.neg_ok {b : Bk} (h : b.ok) : b.neg.ok := ⟨Sk.neg_ok h.re, Sk.neg_ok h.im⟩
structure Es.pr (a : Es) : Prop where
 lo : a.lo.inf ≤ 0
 hi : 0 ≤ a.hi.inf
 klo : a.lo.ok
 khi : a.hi.ok
theorem Es.pr.neg {a : Es} (h : a.pr) : a.neg.pr :=
 ⟨by show -a.hi.inf ≤ 0; have := h.hi; omega, by show 0 ≤ -a.lo.inf; have := h.lo; omega, Eb.neg_ok h.khi, Eb.neg_ok h.klo⟩
theorem Eb.ok_range {a : Eb} (h : a.ok) : a.inf = 0 ∨ a.inf = 1 ∨ a.inf = -1 := by
 rcases h with h | ⟨_, h⟩
 · exact .inl h
 · exact .inr h
theorem Eb.sign_of {a : Eb} (_ : a.inf ≠ 0) : (a.inf < 0 → a.sign = -1) ∧ (0 < a.inf → a.sign = 1) := by
 refine ⟨fun g => Eb.cmp_neg1.2 (.inl g), fun g => Eb.cmp_1.2 (.inl g)⟩
theorem Eb.mul_one_inf {a b : Eb} (h : 0 < (a.mul b).inf) : (a.inf ≠ 0 ∨ b.inf ≠ 0) ∧ a.sign * b.sign = 1 := by
 unfold Eb.mul at h
 by_cases c : a.inf = 0 ∧ b.inf = 0
 · rw [if_pos c] at h; exact absurd h (Int.lt_irrefl 0)
 · rw [if_neg c] at h
   have h : 0 < a.sign * b.sign := h
   refine ⟨by omega, ?_⟩
   rcases Eb.cmp_range a (Eb.fin 0) with p | p | p <;> rcases Eb.cmp_range b (Eb.fin 0) with q | q | q <;>
    (have p' : a.sign = _ := p
     have q' : b.sign = _ := q
     rw [p', q'] at h ⊢; revert h; decide)
theorem Eb.prods_low {a b : Es} (ha : a.pr) (hb : b.pr) (h1 : a.lo.inf ≠ 0) : ¬ (0 < (a.lo.mul b.lo).inf ∧ 0 < (a.lo.mul b.hi).inf ∧ 0 < (a.hi.mul b.hi).inf) := by
 rintro ⟨_, h2, h3⟩
 have s1 : a.lo.sign = -1 := (Eb.sign_of h1).1 (by have := ha.lo; omega)
 have m2 := Eb.mul_one_inf h2
 have m3 := Eb.mul_one_inf h3
 have s2 : b.hi.sign = -1 := by have := m2.2; rw [s1] at this; omega
 have z2 : b.hi.inf = 0 := by
  rcases Int.lt_trichotomy b.hi.inf 0 with q | q | q
  · have := hb.hi; omega
  · exact q
  · have := (Eb.sign_of (a := b.hi) (by omega)).2 q; omega
 have z3 : a.hi.inf ≠ 0 := by
  rcases m3.1 with q | q
  · exact q
  · exact absurd z2 q
 have s3 : a.hi.sign = 1 := (Eb.sign_of z3).2 (by have := ha.hi; omega)
 have := m3.2
 rw [s3, s2] at this; exact absurd this (by decide)
theorem Es.mul_lo {a b : Es} (ha : a.pr) (hb : b.pr) : (a.mul b).lo.inf ≤ 0 := by
 refine Int.not_lt.1 fun hp => ?_
 have f := Eb.pick_first (way := -1) (.inr rfl) (es := Es.prods a b)
 have big : ∀ e ∈ Es.prods a b, 0 < e.inf := by
  intro e he
  refine Int.not_le.1 fun g => f e he ?_
  unfold Eb.W; rw [if_neg (by decide)]
  exact .inl (by
   have : 0 < (Eb.pick (-1) (Es.prods a b)).inf := hp
   omega)
 have m1 : 0 < (a.lo.mul b.lo).inf := big _ (by simp [Es.prods])
 have m2 : 0 < (a.lo.mul b.hi).inf := big _ (by simp [Es.prods])
 have m3 : 0 < (a.hi.mul b.lo).inf := big _ (by simp [Es.prods])
 have m4 : 0 < (a.hi.mul b.hi).inf := big _ (by simp [Es.prods])
 rcases (Eb.mul_one_inf m1).1 with q | q
 · exact Eb.prods_low ha hb q ⟨m1, m2, m4⟩
 · exact Eb.prods_low hb ha q ⟨by rw [Eb.mul_comm]; exact m1, by rw [Eb.mul_comm]; exact m3, by rw [Eb.mul_comm]; exact m4⟩
theorem Es.pr.mul {a b : Es} (ha : a.pr) (hb : b.pr) : (a.mul b).pr := by
 refine ⟨Es.mul_lo ha hb, ?_, Es.prods_ok a b _ (Eb.pick_in (Es.prods_ne a b)), Es.prods_ok a b _ (Eb.pick_in (Es.prods_ne a b))⟩
 have := Es.mul_lo ha.neg hb
 rw [Es.neg_mul] at this
 have : -(a.mul b).hi.inf ≤ 0 := this
 omega
theorem Es.add_comm {a b : Es} (ha : a.pr) (hb : b.pr) : a.add b = b.add a := by
 have h1 : a.lo.add b.lo = b.lo.add a.lo := Eb.add_comm fun p q => by
  have := ha.lo; have := hb.lo
  have r1 := Eb.ok_range ha.klo; have r2 := Eb.ok_range hb.klo
  exact Eb.LT.tri ha.klo hb.klo (by rintro (h | ⟨h, _⟩) <;> omega) (by rintro (h | ⟨h, _⟩) <;> omega)
 have h2 : a.hi.add b.hi = b.hi.add a.hi := Eb.add_comm fun p q => by
  have := ha.hi; have := hb.hi
  have r1 := Eb.ok_range ha.khi; have r2 := Eb.ok_range hb.khi
  exact Eb.LT.tri ha.khi hb.khi (by rintro (h | ⟨h, _⟩) <;> omega) (by rintro (h | ⟨h, _⟩) <;> omega)
 unfold Es.add; rw [h1, h2]
theorem Sk.proper.pr {s : Sk} (h : s.proper) : s.set.pr := by
 refine ⟨?_, ?_, endE_ok _, endE_ok _⟩
 · show (endE s.lo).inf ≤ 0
   by_cases c : (endE s.lo).inf = 0
   · omega
   · rw [endE_lo h.2.1 c]; decide
 · show 0 ≤ (endE s.hi).inf
   by_cases c : (endE s.hi).inf = 0
   · omega
   · rw [endE_hi h.2.2 c]; decide
theorem Bk.mul_comm {b c : Bk} (hb : b.proper) (hc : c.proper) : b.mul c = c.mul b := by
 unfold Bk.mul
 rw [Es.mul_comm b.re.set c.re.set, Es.mul_comm b.im.set c.im.set, Es.mul_comm b.re.set c.im.set, Es.mul_comm b.im.set c.re.set,
  Es.add_comm (hc.2.pr.mul hb.1.pr) (hc.1.pr.mul hb.2.pr)]

theorem mm (a b c d : Int) : max a b ≤ min c d ↔ (a ≤ c ∧ b ≤ c) ∧ a ≤ d ∧ b ≤ d := by omega
theorem Bk.hull_ok {b c : Bk} (h : b.ok) (k : c.ok) : (b.hull c).ok := ⟨Sk.hull_ok h.re k.re, Sk.hull_ok h.im k.im⟩
theorem Bk.meet_ok {b c : Bk} (h : b.ok) (k : c.ok) : (b.meet c).ok := by
 unfold Bk.meet; split
 · exact ⟨Sk.meet_ok h.re k.re, Sk.meet_ok h.im k.im⟩
 · exact Bk.nil_ok

theorem pow_ne (k : Nat) : ((2 ^ k : Nat) : Rat) ≠ 0 := natCast_ne (by have : 0 < 2 ^ k := Nat.pow_pos (by omega); omega)
theorem pow_pos' (k : Nat) : (0 : Rat) < ((2 ^ k : Nat) : Rat) := by
 have : 0 < 2 ^ k := Nat.pow_pos (by omega)
 exact_mod_cast this
theorem frac_lt {a : Int} {D : Nat} {q : Rat} (hD : D ≠ 0) : (a : Rat) / (D : Rat) < q ↔ a * (q.den : Int) < q.num * (D : Int) := by
 have h1 : q = (q.num : Rat) / (q.den : Rat) := by rw [← Rat.mkRat_eq_div]; exact (Rat.mkRat_self q).symm
 have hd : (0 : Rat) < (q.den : Rat) := by have : 0 < q.den := by have := q.den_nz; omega
                                           exact_mod_cast this
 have hD' : (0 : Rat) < (D : Rat) := by have : 0 < D := by omega
                                        exact_mod_cast this
 have e1 : (a : Rat) / (D : Rat) < q ↔ (a : Rat) * (q.den : Rat) < (q.num : Rat) * (D : Rat) := by
  conv => lhs; rw [h1]
  rw [Rat.div_lt_iff hD', Rat.div_def, Rat.mul_assoc, Rat.mul_comm (q.den : Rat)⁻¹, ← Rat.mul_assoc, ← Rat.div_def, Rat.lt_div_iff hd]
 rw [e1]; exact_mod_cast Iff.rfl
theorem lt_frac {a : Int} {D : Nat} {q : Rat} (hD : D ≠ 0) : q < (a : Rat) / (D : Rat) ↔ q.num * (D : Int) < a * (q.den : Int) := by
 have h1 : q = (q.num : Rat) / (q.den : Rat) := by rw [← Rat.mkRat_eq_div]; exact (Rat.mkRat_self q).symm
 have hd : (0 : Rat) < (q.den : Rat) := by have : 0 < q.den := by have := q.den_nz; omega
                                           exact_mod_cast this
 have hD' : (0 : Rat) < (D : Rat) := by have : 0 < D := by omega
                                        exact_mod_cast this
 have e1 : q < (a : Rat) / (D : Rat) ↔ (q.num : Rat) * (D : Rat) < (a : Rat) * (q.den : Rat) := by
  conv => lhs; rw [h1]
  rw [Rat.lt_div_iff hD', Rat.div_def, Rat.mul_assoc, Rat.mul_comm (q.den : Rat)⁻¹, ← Rat.mul_assoc, ← Rat.div_def, Rat.div_lt_iff hd]
 rw [e1]; exact_mod_cast Iff.rfl
theorem two_ne (k : Nat) : 2 ^ k ≠ 0 := Nat.pos_iff_ne_zero.1 (Nat.pow_pos (by omega))
theorem lt_fkq {k : Int} {q : Rat} : q < fkq k ↔ q.num * ((2 ^ 1074 : Nat) : Int) < kz k * (q.den : Int) := lt_frac (a := kz k) (two_ne 1074)
theorem kz_nat (r : Nat) : kz (r : Int) = (rm r : Int) := by unfold kz; rw [if_neg (by omega), Int.natAbs_natCast]
theorem endE_of {k : Int} (h : k.natAbs < infR) : endE k = ⟨0, fkq k⟩ := by
 unfold endE; rw [if_neg (by omega), if_neg (by omega)]
theorem below_first (q : Rat) : ¬ Eb.LT ⟨0, q⟩ (endE (belowK q)) := by
 have hd : 0 < q.den := by have := q.den_nz; omega
 obtain ⟨T, hT⟩ : ∃ T : Nat, T = 2 ^ 1074 := ⟨_, rfl⟩
 unfold belowK
 by_cases c : 0 ≤ q.num
 · rw [if_pos c]
   have h := downK_spec (n := q.num.natAbs) hd
   rw [endE_of (by rw [Int.natAbs_natCast]; exact h.lt)]
   rintro (g | ⟨_, _, g⟩)
   · exact absurd g (Int.lt_irrefl 0)
   · have g : q < fkq ((downK q.num.natAbs q.den : Nat) : Int) := g
     rw [lt_fkq, kz_nat] at g
     have hle := h.le
     rw [← hT] at g hle
     have e : q.num = (q.num.natAbs : Int) := by omega
     rw [e] at g
     have g2 : q.num.natAbs * T < rm (downK q.num.natAbs q.den) * q.den := by exact_mod_cast g
     omega
 · rw [if_neg c]
   have h := upK_spec (n := q.num.natAbs) hd
   by_cases z : upK q.num.natAbs q.den = infR
   · rw [z]
     have e : endE (-(infR : Int)) = ⟨-1, 0⟩ := by unfold endE; rw [if_neg (by decide), if_pos rfl]
     rw [e]
     rintro (g | ⟨_, g, _⟩)
     · exact absurd g (by show ¬ (0 : Int) < -1; decide)
     · exact absurd g (by show ¬ (-1 : Int) = 0; decide)
   · have hle := h.le
     rw [endE_of (by rw [Int.natAbs_neg, Int.natAbs_natCast]; omega)]
     rintro (g | ⟨_, _, g⟩)
     · exact absurd g (Int.lt_irrefl 0)
     · have g : q < fkq (-((upK q.num.natAbs q.den : Nat) : Int)) := g
       rw [lt_fkq, kz_neg, kz_nat] at g
       rcases h.ge with h2 | h2
       · exact z h2
       · rw [← hT] at g h2
         have e : q.num * (T : Int) = -((q.num.natAbs * T : Nat) : Int) := by
          rw [Int.natCast_mul, ← Int.neg_mul]
          exact congrArg (fun x => x * (T : Int)) (by omega)
         rw [e, Int.neg_mul] at g
         have g2 : ((rm (upK q.num.natAbs q.den) * q.den : Nat) : Int) < ((q.num.natAbs * T : Nat) : Int) := by
          rw [Int.natCast_mul]; omega
         have := Int.ofNat_lt.1 g2
         omega
theorem above_first (q : Rat) : ¬ Eb.LT (endE (aboveK q)) ⟨0, q⟩ := by
 intro h
 rw [← Eb.LT_neg] at h
 have e : (⟨0, q⟩ : Eb).neg = ⟨0, -q⟩ := by unfold Eb.neg; simp
 rw [e, ← endE_neg, ← belowK_neg] at h
 exact below_first (-q) h
theorem endE_lt {k l : Int} (hk : inK k) (hl : inK l) (h : k < l) : Eb.LT (endE k) (endE l) := by
 unfold inK at hk hl
 unfold endE
 rw [if_neg (by omega : ¬ k = (infR : Int))]
 by_cases a : k = -(infR : Int)
 · rw [if_pos a]
   by_cases b : l = (infR : Int)
   · rw [if_pos b]; exact .inl (by decide)
   · rw [if_neg b, if_neg (by omega)]; exact .inl (by show (-1 : Int) < 0; decide)
 · rw [if_neg a]
   by_cases b : l = (infR : Int)
   · rw [if_pos b]; exact .inl (by show (0 : Int) < 1; decide)
   · rw [if_neg b, if_neg (by omega)]
     refine .inr ⟨rfl, rfl, ?_⟩
     show fkq k < fkq l
     unfold fkq
     rw [Rat.div_lt_iff (pow_pos' 1074), Rat.div_mul_cancel (pow_ne 1074)]
     exact_mod_cast kz_lt h
theorem endE_le {k l : Int} (hk : inK k) (hl : inK l) (h : ¬ Eb.LT (endE l) (endE k)) : k ≤ l := Int.not_lt.1 fun g => h (endE_lt hl hk g)
theorem of_exact {q : Rat} {k : Int} (hk : k.natAbs < infR) (h : fkq k = q) : belowK q = k ∧ aboveK q = k := by
 have hd : 0 < q.den := by have := q.den_nz; omega
 obtain ⟨T, hT⟩ : ∃ T : Nat, T = 2 ^ 1074 := ⟨_, rfl⟩
 have hx : kz k * (q.den : Int) = q.num * (T : Int) := by
  have a1 : ¬ q < fkq k := by rw [h]; exact Rat.lt_irrefl
  have a2 : ¬ fkq k < q := by rw [h]; exact Rat.lt_irrefl
  rw [lt_fkq] at a1
  have a2 : ¬ kz k * (q.den : Int) < q.num * ((2 ^ 1074 : Nat) : Int) := fun g => a2 ((frac_lt (a := kz k) (two_ne 1074)).2 g)
  rw [← hT] at a1 a2
  omega
 have hz : kz k = if k < 0 then -(rm k.natAbs : Int) else (rm k.natAbs : Int) := rfl
 have hdi : (0 : Int) < (q.den : Int) := by omega
 have hTi : (0 : Int) < (T : Int) := by have := two_ne 1074; rw [← hT] at this; omega
 have key : rm k.natAbs * q.den = q.num.natAbs * T := by
  have := congrArg Int.natAbs hx
  rw [Int.natAbs_mul, Int.natAbs_mul, Int.natAbs_natCast, Int.natAbs_natCast] at this
  have e : (kz k).natAbs = rm k.natAbs := by rw [hz]; split <;> omega
  rw [e] at this; exact this
 have hD : IsDown k.natAbs q.num.natAbs q.den := by
  refine ⟨hk, ?_, .inr ?_⟩
  · rw [← hT]; omega
  · rw [← hT, ← key]; exact Nat.mul_lt_mul_of_pos_right (rm_lt (by omega)) hd
 have hU : IsUp k.natAbs q.num.natAbs q.den := by
  refine ⟨by omega, .inr ?_, ?_⟩
  · rw [← hT]; omega
  · by_cases z : k.natAbs = 0
    · exact .inl z
    · refine .inr ?_
      rw [← hT, ← key]; exact Nat.mul_lt_mul_of_pos_right (rm_lt (by omega)) hd
 have e1 := hD.unique hd (downK_spec hd)
 have e2 := hU.unique hd (upK_spec hd)
 -- the signs agree
 have sg : 0 ≤ q.num ↔ 0 ≤ k ∨ k = 0 := by
  constructor
  · intro c
    refine Classical.byContradiction fun g => ?_
    have kn : k < 0 := by omega
    have p : 0 < rm k.natAbs := rm_pos (by omega)
    rw [hz, if_pos kn] at hx
    have a : (0 : Int) < (rm k.natAbs : Int) * (q.den : Int) := Int.mul_pos (by omega) hdi
    have b : (0 : Int) ≤ q.num * (T : Int) := Int.mul_nonneg c (by omega)
    rw [Int.neg_mul] at hx; omega
  · intro c
    have kn : ¬ k < 0 := by omega
    rw [hz, if_neg kn] at hx
    refine Int.not_lt.1 fun g => ?_
    have a : q.num * (T : Int) < 0 := Int.mul_neg_of_neg_of_pos g hTi
    have b : (0 : Int) ≤ (rm k.natAbs : Int) * (q.den : Int) := Int.mul_nonneg (by omega) (by omega)
    omega
 unfold belowK aboveK
 by_cases c : 0 ≤ q.num
 · have := sg.1 c
   rw [if_pos c, if_pos c, ← e1, ← e2]; omega
 · have : ¬ (0 ≤ k ∨ k = 0) := fun g => c (sg.2 g)
   rw [if_neg c, if_neg c, ← e1, ← e2]; omega

theorem spl_step {N D q : Nat} (hD : 0 < D) (hq : q = N / D) : q / 2 = N / (D * 2) ∧ (N % (D * 2) ≠ 0 ↔ (N % D ≠ 0 ∨ q % 2 = 1)) := by
 subst hq
 refine ⟨Nat.div_div_eq_div_mul .., ?_⟩
 rw [Nat.mod_mul]
 rcases Nat.mod_two_eq_zero_or_one (N / D) with h | h
 · rw [h]; omega
 · rw [h]; omega
structure Spl (a d K T q : Nat) (rest : Prop) : Prop where
 quo : q = a * 2 ^ K / (d * 2 ^ T)
 rest : a * 2 ^ K % (d * 2 ^ T) ≠ 0 ↔ rest
 big : T = 0 ∨ 2 ^ 52 ≤ q
theorem Spl.congr {a d K T q : Nat} {rest rest' : Prop} (h : Spl a d K T q rest) (e : rest ↔ rest') : Spl a d K T q rest' := ⟨h.quo, h.rest.trans e, h.big⟩
theorem Spl.step {a d K T q : Nat} {rest : Prop} (hd : 0 < d) (h : Spl a d K T q rest) (hq : 2 ^ 53 ≤ q) : Spl a d K (T + 1) (q / 2) (rest ∨ q % 2 = 1) := by
 have s := spl_step (N := a * 2 ^ K) (D := d * 2 ^ T) (Nat.mul_pos hd (two_pos T)) h.quo
 have e : d * 2 ^ T * 2 = d * 2 ^ (T + 1) := by rw [Nat.pow_succ, Nat.mul_assoc]
 rw [e] at s
 exact ⟨s.1, by rw [s.2, h.rest], .inr (by omega)⟩
theorem Spl.core {a d K T m : Nat} {rest : Prop} (hd : 0 < d) (h : Spl a d K T m rest) :
 m * 2 ^ T * d ≤ a * 2 ^ K ∧ a * 2 ^ K < (m + 1) * 2 ^ T * d ∧ (¬ rest → m * 2 ^ T * d = a * 2 ^ K) ∧ (rest → m * 2 ^ T * d < a * 2 ^ K) := by
 have hr := h.rest
 have hq := h.quo
 have s : ∀ k : Nat, k * 2 ^ T * d = k * (d * 2 ^ T) := by intro k; ac_rfl
 rw [s, s]
 have hD : 0 < d * 2 ^ T := Nat.mul_pos hd (two_pos T)
 generalize d * 2 ^ T = D at *
 generalize a * 2 ^ K = N at *
 have f := Nat.div_add_mod N D
 have g := Nat.mod_lt N hD
 rw [← hq] at f
 rw [Nat.add_mul, Nat.one_mul, Nat.mul_comm m D]
 refine ⟨by omega, by omega, fun n => ?_, fun y => ?_⟩
 · have z : N % D = 0 := Classical.byContradiction fun c => n (hr.1 c)
   omega
 · have z : N % D ≠ 0 := hr.2 y
   omega
theorem two_pow_le {a b : Nat} (h : a ≤ b) : 2 ^ a ≤ 2 ^ b := Nat.pow_le_pow_right (by omega) h
theorem Spl.over {a d K T m : Nat} {rest : Prop} (hd : 0 < d) (h : Spl a d K T m rest) (hT : 2046 ≤ T) : rm infR * d ≤ a * 2 ^ K := by
 obtain ⟨g, hg⟩ : ∃ g, g = 2046 := ⟨_, rfl⟩
 rw [rm_infE hg, Nat.pow_add]
 have hb : 2 ^ 52 ≤ m := by rcases h.big with b | b <;> omega
 refine Nat.le_trans (Nat.mul_le_mul_right d ?_) (h.core hd).1
 exact Nat.mul_le_mul hb (two_pow_le (by omega))

theorem pow_ex (k : Nat) : ∃ T : Nat, T = 2 ^ k ∧ 0 < T := ⟨_, rfl, two_pos k⟩
theorem endE_top : endE (infR : Int) = ⟨1, 0⟩ := by unfold endE; rw [if_pos rfl]
theorem below_next (q : Rat) : belowK q < (infR : Int) ∧ Eb.LT ⟨0, q⟩ (endE (belowK q + 1)) := by
 have hd : 0 < q.den := by have := q.den_nz; omega
 obtain ⟨T, hT, tp⟩ : ∃ T : Nat, T = 2 ^ 1074 ∧ 0 < T := pow_ex 1074
 have top : ∀ {k : Int}, k = (infR : Int) → Eb.LT ⟨0, q⟩ (endE k) := by
  intro k hk; rw [hk, endE_top]; exact .inl (by show (0 : Int) < 1; decide)
 unfold belowK
 by_cases c : 0 ≤ q.num
 · rw [if_pos c]
   have h := downK_spec (n := q.num.natAbs) hd
   have hlt := h.lt
   refine ⟨by omega, ?_⟩
   rcases h.next with e | e
   · exact top (by omega)
   · by_cases z : downK q.num.natAbs q.den + 1 = infR
     · exact top (by omega)
     · rw [endE_of (by omega)]
       refine .inr ⟨rfl, rfl, ?_⟩
       show q < fkq (((downK q.num.natAbs q.den : Nat) : Int) + 1)
       have e1 : ((downK q.num.natAbs q.den : Nat) : Int) + 1 = ((downK q.num.natAbs q.den + 1 : Nat) : Int) := by omega
       rw [e1, lt_fkq, kz_nat]
       rw [← hT] at e ⊢
       have e2 : q.num = (q.num.natAbs : Int) := by omega
       rw [e2]
       exact_mod_cast e
 · rw [if_neg c]
   have h := upK_spec (n := q.num.natAbs) hd
   have hle := h.le
   have hi : 0 < infR := by decide
   refine ⟨by omega, ?_⟩
   rcases h.prev with e | e
   · exfalso
     rcases h.ge with g | g
     · omega
     · rw [e, rm_zero, Nat.zero_mul, ← hT] at g
       have np : 0 < q.num.natAbs := by omega
       have := Nat.mul_pos np tp
       omega
   · by_cases z : upK q.num.natAbs q.den = 0
     · exfalso
       rcases h.ge with g | g
       · omega
       · rw [z, rm_zero, Nat.zero_mul, ← hT] at g
         have np : 0 < q.num.natAbs := by omega
         have := Nat.mul_pos np tp
         omega
     · have e1 : -((upK q.num.natAbs q.den : Nat) : Int) + 1 = -((upK q.num.natAbs q.den - 1 : Nat) : Int) := by omega
       rw [e1, endE_of (by omega)]
       refine .inr ⟨rfl, rfl, ?_⟩
       show q < fkq (-((upK q.num.natAbs q.den - 1 : Nat) : Int))
       rw [lt_fkq, kz_neg, kz_nat]
       rw [← hT] at e ⊢
       have e2 : q.num * (T : Int) = -((q.num.natAbs * T : Nat) : Int) := by
        rw [Int.natCast_mul, ← Int.neg_mul]
        exact congrArg (fun x => x * (T : Int)) (by omega)
       rw [e2, Int.neg_mul]
       have g2 : ((rm (upK q.num.natAbs q.den - 1) * q.den : Nat) : Int) < ((q.num.natAbs * T : Nat) : Int) := by exact_mod_cast e
       rw [Int.natCast_mul] at g2
       omega
theorem fin_neg (q : Rat) : (⟨0, q⟩ : Eb).neg = ⟨0, -q⟩ := by unfold Eb.neg; simp
theorem above_prev (q : Rat) : -(infR : Int) < aboveK q ∧ Eb.LT (endE (aboveK q - 1)) ⟨0, q⟩ := by
 have h := below_next (-q)
 rw [belowK_neg] at h
 refine ⟨by omega, ?_⟩
 have h2 := h.2
 rw [← Eb.LT_neg, fin_neg, ← endE_neg] at h2
 have e : -(-aboveK q + 1) = aboveK q - 1 := by omega
 have e2 : (⟨0, - -q⟩ : Eb) = ⟨0, q⟩ := by congr 1; grind
 rw [e, e2] at h2
 exact h2
theorem below_of {q : Rat} {k : Int} (h0 : -(infR : Int) ≤ k) (h1 : k < (infR : Int)) (h2 : ¬ Eb.LT ⟨0, q⟩ (endE k)) (h3 : Eb.LT ⟨0, q⟩ (endE (k + 1))) : belowK q = k := by
 have b0 := belowK_in q
 have b1 := below_next q
 have b2 := below_first q
 unfold inK at b0
 rcases Int.lt_trichotomy (belowK q) k with h | h | h
 · exfalso
   rcases Int.lt_or_eq_of_le (show belowK q + 1 ≤ k by omega) with g | g
   · have := endE_lt (k := belowK q + 1) (l := k) ⟨by omega, by omega⟩ ⟨by omega, by omega⟩ g
     exact h2 (b1.2.trans this)
   · rw [← g] at h2; exact h2 b1.2
 · exact h
 · exfalso
   rcases Int.lt_or_eq_of_le (show k + 1 ≤ belowK q by omega) with g | g
   · have := endE_lt (k := k + 1) (l := belowK q) ⟨by omega, by omega⟩ ⟨by omega, by omega⟩ g
     exact b2 (h3.trans this)
   · rw [← g] at b2; exact b2 h3
theorem above_of {q : Rat} {k : Int} (h0 : -(infR : Int) < k) (h1 : k ≤ (infR : Int)) (h2 : ¬ Eb.LT (endE k) ⟨0, q⟩) (h3 : Eb.LT (endE (k - 1)) ⟨0, q⟩) : aboveK q = k := by
 have e : belowK (-q) = -k := by
  refine below_of (by omega) (by omega) ?_ ?_
  · rw [endE_neg, ← fin_neg, Eb.LT_neg]; exact h2
  · have e1 : -k + 1 = -(k - 1) := by omega
    rw [e1, endE_neg, ← fin_neg, Eb.LT_neg]; exact h3
 rw [belowK_neg] at e
 omega
theorem above_below (q : Rat) : belowK q ≤ aboveK q ∧ aboveK q ≤ belowK q + 1 := by
 have b := belowK_in q; have a := aboveK_in q
 have b1 := below_next q; have a1 := above_prev q
 unfold inK at a b
 refine ⟨endE_le (belowK_in q) (aboveK_in q) fun h => ?_, ?_⟩
 · rcases Eb.LT.weak (b := (⟨0, q⟩ : Eb)) h with g | g
   · exact above_first q g
   · exact below_first q g
 · refine Int.not_lt.1 fun h => ?_
   have g : belowK q + 1 ≤ aboveK q - 1 := by omega
   rcases Int.lt_or_eq_of_le g with g | g
   · exact Eb.LT.irrefl (b1.2.trans ((endE_lt (k := belowK q + 1) (l := aboveK q - 1) ⟨by omega, by omega⟩ ⟨by omega, by omega⟩ g).trans a1.2))
   · rw [← g] at a1; exact Eb.LT.irrefl (b1.2.trans a1.2)
theorem fin_lt {a b : Rat} : Eb.LT ⟨0, a⟩ ⟨0, b⟩ ↔ a < b := by
 constructor
 · rintro (h | ⟨_, _, h⟩)
   · exact absurd h (Int.lt_irrefl 0)
   · exact h
 · exact fun h => .inr ⟨rfl, rfl, h⟩

theorem sq_mono {a b : Rat} (h0 : 0 ≤ a) (h : a ≤ b) : a * a ≤ b * b := by
 have h1 := Rat.mul_le_mul_of_nonneg_left h h0
 have h2 := Rat.mul_le_mul_of_nonneg_right h (show (0 : Rat) ≤ b by grind)
 grind
def rtD (x q : Rat) : Rat := q * q * 2 - x
def rtP (x n q : Rat) : Prop := rtD x q < 0 ∨ rtD x q * rtD x q ≤ n
def rtC (x n q : Rat) : Int := if rtD x q < 0 then -1 else cmpR (rtD x q * rtD x q) n
theorem rtC_le {x n q : Rat} : rtC x n q ≤ 0 ↔ rtP x n q := by
 unfold rtC rtP
 by_cases h : rtD x q < 0
 · rw [if_pos h]; exact ⟨fun _ => .inl h, fun _ => by decide⟩
 · rw [if_neg h]
   unfold cmpR
   by_cases h1 : rtD x q * rtD x q < n
   · rw [if_pos h1]; exact ⟨fun _ => .inr (Rat.le_of_lt h1), fun _ => by decide⟩
   · rw [if_neg h1]
     by_cases h2 : rtD x q * rtD x q = n
     · rw [if_pos h2]; exact ⟨fun _ => .inr (by grind), fun _ => by decide⟩
     · rw [if_neg h2]
       refine ⟨fun e => absurd e (by decide), fun e => ?_⟩
       rcases e with e | e
       · exact absurd e h
       · grind
theorem rtC_zero {x n q : Rat} : rtC x n q = 0 ↔ 0 ≤ rtD x q ∧ rtD x q * rtD x q = n := by
 unfold rtC
 by_cases h : rtD x q < 0
 · rw [if_pos h]; exact ⟨fun e => absurd e (by decide), fun e => by grind⟩
 · rw [if_neg h]
   have h0 : 0 ≤ rtD x q := by grind
   unfold cmpR
   by_cases h1 : rtD x q * rtD x q < n
   · rw [if_pos h1]; exact ⟨fun e => absurd e (by decide), fun e => by grind⟩
   · rw [if_neg h1]
     by_cases h2 : rtD x q * rtD x q = n
     · rw [if_pos h2]; exact ⟨fun _ => ⟨h0, h2⟩, fun _ => rfl⟩
     · rw [if_neg h2]; exact ⟨fun e => absurd e (by decide), fun e => absurd e.2 h2⟩
theorem rtP_mono {x n p q : Rat} (hp : 0 ≤ p) (hpq : p ≤ q) (h : rtP x n q) : rtP x n p := by
 have s := sq_mono hp hpq
 have d : rtD x p ≤ rtD x q := by unfold rtD; grind
 by_cases c : rtD x p < 0
 · exact .inl c
 · refine .inr ?_
   have c0 : 0 ≤ rtD x p := by grind
   have := sq_mono c0 d
   rcases h with h | h
   · grind
   · grind
structure IsTop (P : Rat → Prop) (r : Nat) : Prop where
 lt : r < infR
 le : P (fkq (r : Int))
 next : r + 1 = infR ∨ ¬ P (fkq ((r + 1 : Nat) : Int))
theorem fkq_lt {a b : Int} : fkq a < fkq b ↔ a < b := by
 unfold fkq
 rw [Rat.div_lt_iff (pow_pos' 1074), Rat.div_mul_cancel (pow_ne 1074)]
 constructor
 · intro h; exact kz_lt_iff.1 (by exact_mod_cast h)
 · intro h; exact_mod_cast kz_lt_iff.2 h
theorem fkq_le {a b : Int} (h : a ≤ b) : fkq a ≤ fkq b := by
 rcases Int.lt_or_eq_of_le h with h | h
 · exact Rat.le_of_lt (fkq_lt.2 h)
 · rw [h]; exact Rat.le_refl
theorem fkq_zero : fkq 0 = 0 := by
 unfold fkq
 have : kz 0 = 0 := by decide
 rw [this, Rat.div_def]; exact Rat.zero_mul _
theorem fkq_nonneg (r : Nat) : 0 ≤ fkq (r : Int) := by
 have := fkq_le (a := 0) (b := (r : Int)) (by omega)
 rw [fkq_zero] at this; exact this
theorem IsTop.unique {P : Rat → Prop} (hP : ∀ p q, 0 ≤ p → p ≤ q → P q → P p) {r s : Nat} (h : IsTop P r) (k : IsTop P s) : r = s := by
 have key : ∀ {a b : Nat}, IsTop P a → IsTop P b → ¬ a < b := by
  intro a b ha hb c
  rcases ha.next with e | e
  · have := hb.lt; omega
  · exact e (hP _ _ (fkq_nonneg _) (fkq_le (by omega)) hb.le)
 have := key h k
 have := key k h
 omega
theorem IsTop.congr {P Q : Rat → Prop} (h : ∀ q, 0 ≤ q → (P q ↔ Q q)) {r : Nat} (k : IsTop P r) : IsTop Q r :=
 ⟨k.lt, (h _ (fkq_nonneg _)).1 k.le, k.next.imp id fun n e => n ((h _ (fkq_nonneg _)).2 e)⟩
theorem below_le {q : Rat} {k : Int} (hk : k.natAbs < infR) (h : ¬ Eb.LT ⟨0, q⟩ (endE k)) : fkq k ≤ q := by
 rw [endE_of hk, fin_lt] at h; exact Rat.not_lt.1 h
theorem below_nonneg {q : Rat} (h : 0 ≤ q) : 0 ≤ belowK q := by
 have b1 := below_next q
 refine Int.not_lt.1 fun c => ?_
 have b := belowK_in q
 unfold inK at b
 by_cases e : belowK q = -(infR : Int)
 · have hi : (0 : Nat) < infR - 1 := by decide
   have h2 := b1.2
   rw [endE_of (by omega), fin_lt] at h2
   have := fkq_le (a := belowK q + 1) (b := 0) (by omega)
   rw [fkq_zero] at this; grind
 · have h2 := b1.2
   rw [endE_of (by omega), fin_lt] at h2
   have := fkq_le (a := belowK q + 1) (b := 0) (by omega)
   rw [fkq_zero] at this; grind
theorem bracket {P : Rat → Prop} (hP : ∀ p q, 0 ≤ p → p ≤ q → P q → P p) {lo hi : Rat} (h0 : 0 ≤ lo) (hh : 0 ≤ hi) (h1 : P lo) (h2 : ¬ P hi) (hb : belowK lo = belowK hi) (ha : aboveK lo = aboveK hi) :
 ∃ r : Nat, IsTop P r ∧ belowK lo = r ∧ aboveK lo = ((r + 1 : Nat) : Int) ∧ ∃ q, fkq (r : Int) < q ∧ P q := by
 have hlt : lo < hi := Rat.not_le.1 fun g => h2 (hP _ _ hh g h1)
 have k0 := below_nonneg h0
 have kn := below_next lo
 have kf := below_first lo
 have kn2 := below_next hi
 rw [← hb] at kn2
 obtain ⟨r, hr⟩ : ∃ r : Nat, belowK lo = r := ⟨(belowK lo).toNat, by omega⟩
 rw [hr] at kn kf kn2
 have ab := above_below lo
 rw [hr] at ab
 have hle := below_le (by omega) kf
 have hne : aboveK lo ≠ r := by
  intro e
  have af := above_first hi
  rw [← ha, e, endE_of (by omega), fin_lt] at af
  have : hi ≤ fkq (r : Int) := Rat.not_lt.1 af
  grind
 have hne2 : fkq (r : Int) ≠ lo := by
  intro e
  exact hne (of_exact (by omega) e).2
 refine ⟨r, ⟨by omega, hP _ _ (fkq_nonneg r) hle h1, ?_⟩, hr, by omega, lo, by grind, h1⟩
 by_cases c : r + 1 = infR
 · exact .inl c
 · refine .inr fun g => h2 (hP _ _ hh ?_ g)
   have := kn2.2
   rw [endE_of (by omega), fin_lt] at this
   have e : ((r : Nat) : Int) + 1 = ((r + 1 : Nat) : Int) := by omega
   rw [e] at this
   exact Rat.le_of_lt this
theorem between {lo hi : Rat} {r : Nat} (hr : r + 1 < infR) (h1 : fkq (r : Int) < lo) (h2 : lo ≤ hi) (h3 : hi < fkq ((r + 1 : Nat) : Int)) : belowK lo = belowK hi ∧ aboveK lo = aboveK hi := by
 have key : ∀ {q : Rat}, fkq (r : Int) < q → q < fkq ((r + 1 : Nat) : Int) → belowK q = r ∧ aboveK q = ((r + 1 : Nat) : Int) := by
  intro q a b
  have e1 : ((r : Nat) : Int) + 1 = ((r + 1 : Nat) : Int) := by omega
  have e2 : ((r + 1 : Nat) : Int) - 1 = (r : Int) := by omega
  refine ⟨below_of (by omega) (by omega) ?_ ?_, above_of (by omega) (by omega) ?_ ?_⟩
  · rw [endE_of (by omega), fin_lt]; grind
  · rw [e1, endE_of (by omega), fin_lt]; exact b
  · rw [endE_of (by omega), fin_lt]; grind
  · rw [e2, endE_of (by omega), fin_lt]; exact a
 have k1 := key h1 (by grind)
 have k2 := key (q := hi) (by grind) h3
 exact ⟨k1.1.trans k2.1.symm, k1.2.trans k2.2.symm⟩
theorem mul_self_nonneg (a : Rat) : 0 ≤ a * a := by
 by_cases z : 0 ≤ a
 · exact Rat.mul_nonneg z z
 · have := Rat.mul_nonneg (show 0 ≤ -a by grind) (show 0 ≤ -a by grind); grind

theorem endE_zero : endE 0 = Eb.fin 0 := by
 rw [endE_of (by decide), fkq_zero]; rfl
theorem sign_endE {k : Int} (hk : inK k) : (endE k).sign = cmpZ k 0 := by
 have z : inK 0 := by unfold inK infR; omega
 have e : (endE k).sign = (endE k).cmp (endE 0) := by rw [endE_zero]; rfl
 rw [e]
 rcases Int.lt_trichotomy k 0 with h | h | h
 · rw [cmpZ_lt h, Eb.cmp_neg1.2 (endE_lt hk z h)]
 · rw [cmpZ_eq h, h]
   have r := Eb.cmp_range (endE 0) (endE 0)
   rcases r with r | r | r
   · exact absurd (Eb.cmp_neg1.1 r) Eb.LT.irrefl
   · exact r
   · exact absurd (Eb.cmp_1.1 r) Eb.LT.irrefl
 · rw [cmpZ_gt h, Eb.cmp_1.2 (endE_lt z hk h)]
theorem set_zero_eq {s : Sk} (h : s.ok) : s.set.zero = (decide (s.lo ≤ 0) && decide (0 ≤ s.hi)) := by
 show (decide ((endE s.lo).sign ≤ 0) && decide (0 ≤ (endE s.hi).sign)) = _
 rw [sign_endE h.lo, sign_endE h.hi]
 have a : (cmpZ s.lo 0 ≤ 0) ↔ s.lo ≤ 0 := by unfold cmpZ; split <;> (try split) <;> omega
 have b : (0 ≤ cmpZ s.hi 0) ↔ 0 ≤ s.hi := by unfold cmpZ; split <;> (try split) <;> omega
 rw [decide_eq_decide.2 a, decide_eq_decide.2 b]
theorem zero_add {e : Eb} (h : e.ok) : (Eb.fin 0).add e = e := by
 unfold Eb.add
 rw [if_neg (by decide)]
 by_cases c : e.inf = 0
 · rw [if_neg (by omega)]
   cases e
   dsimp only at c ⊢
   rw [c]
   congr 1
   show (0 : Rat) + _ = _
   grind
 · rw [if_pos c]
def Eb.abs (a : Eb) : Eb := if a.sign < 0 then a.neg else a
def Es.size (a : Es) : Es := if a.zero then ⟨Eb.fin 0, Eb.pick 1 [a.lo.abs, a.hi.abs]⟩ else ⟨Eb.pick (-1) [a.lo.abs, a.hi.abs], Eb.pick 1 [a.lo.abs, a.hi.abs]⟩
def Es.square (a : Es) : Es := ⟨a.size.lo.mul a.size.lo, a.size.hi.mul a.size.hi⟩
theorem abs_ok {a : Eb} (h : a.ok) : a.abs.ok := by
 unfold Eb.abs; split
 · exact Eb.neg_ok h
 · exact h
theorem abs_fin {a : Eb} (h : a.inf = 0) : a.abs = ⟨0, if a.x < 0 then -a.x else a.x⟩ := by
 have s : a.sign = cmpR a.x 0 := by
  show (if a.inf ≠ 0 ∨ (0 : Int) ≠ 0 then cmpZ a.inf 0 else cmpR a.x 0) = _
  rw [if_neg (by omega)]
 unfold Eb.abs
 rw [s]
 by_cases c : a.x < 0
 · rw [if_pos c, if_pos (by unfold cmpR; rw [if_pos c]; decide)]
   show Eb.mk (-a.inf) (-a.x) = _; rw [h]; rfl
 · rw [if_neg c, if_neg (by unfold cmpR; rw [if_neg c]; split <;> decide)]
   cases a; dsimp only at h; rw [h]
theorem abs_inf {a : Eb} (h : a.inf ≠ 0) (ho : a.ok) : a.abs = ⟨1, 0⟩ := by
 rcases ho with g | ⟨g, g2⟩
 · exact absurd g h
 · have s := Eb.sign_of h
   unfold Eb.abs
   rcases g2 with g2 | g2
   · rw [if_neg (by rw [s.2 (by omega)]; decide)]
     cases a; dsimp only at g g2; rw [g, g2]
   · rw [if_pos (by rw [s.1 (by omega)]; decide)]
     cases a; dsimp only at g g2; rw [g, g2]; rfl
theorem abs_sq (a : Eb) : a.abs.mul a.abs = a.mul a := by
 unfold Eb.abs
 split
 · rw [Eb.mul_neg, Eb.mul_comm, Eb.mul_neg, Eb.neg_neg]
 · rfl

theorem rtP_zero {x n : Rat} (h : x * x ≤ n) : rtP x n 0 := by
 unfold rtP rtD
 by_cases c : (0 : Rat) * 0 * 2 - x < 0
 · exact .inl c
 · refine .inr ?_
   have e : ((0 : Rat) * 0 * 2 - x) * (0 * 0 * 2 - x) = x * x := by grind
   rw [e]; exact h
theorem sq_sum (x y : Rat) : x * x ≤ x * x + y * y := by have := mul_self_nonneg y; grind
def RootIs (e f : Eb) (up : Bool) (k : Nat) : Prop :=
 if 0 < e.inf ∨ f.inf ≠ 0 then k = infR else if e.inf < 0 then k = 0
 else ∃ r, IsTop (rtP e.x (e.x * e.x + f.x * f.x)) r ∧ k = if up = true ∧ rtC e.x (e.x * e.x + f.x * f.x) (fkq (r : Int)) ≠ 0 then r + 1 else r
theorem rtP_anti (x n : Rat) : ∀ p q, 0 ≤ p → p ≤ q → rtP x n q → rtP x n p := fun _ _ => rtP_mono
theorem RootIs.unique {e f : Eb} {up : Bool} {k l : Nat} (h : RootIs e f up k) (g : RootIs e f up l) : k = l := by
 unfold RootIs at h g
 by_cases c : 0 < e.inf ∨ f.inf ≠ 0
 · rw [if_pos c] at h g; rw [h, g]
 · rw [if_neg c] at h g
   by_cases d : e.inf < 0
   · rw [if_pos d] at h g; rw [h, g]
   · rw [if_neg d] at h g
     obtain ⟨r, h1, h2⟩ := h
     obtain ⟨s, g1, g2⟩ := g
     have := h1.unique (rtP_anti _ _) g1
     subst this
     rw [h2, g2]
theorem RootIs.le {e f : Eb} {up : Bool} {k : Nat} (h : RootIs e f up k) : k ≤ infR := by
 unfold RootIs at h
 split at h
 · omega
 · split at h
   · omega
   · obtain ⟨r, h1, h2⟩ := h
     have := h1.lt
     split at h2 <;> omega
theorem inK_nat {k : Nat} (h : k ≤ infR) : inK (k : Int) := ⟨by omega, by omega⟩
theorem inK_neg {k : Int} (h : inK k) : inK (-k) := by unfold inK at *; omega
def SqrtS (s t : Sk) : Prop := if s.lo < 0 then t = Sk.nil else ∃ k l : Nat, t = ⟨(k : Int), (l : Int)⟩ ∧ RootIs s.set.lo (Eb.fin 0) false k ∧ RootIs s.set.hi (Eb.fin 0) true l
theorem SqrtS.unique {s t u : Sk} (h : SqrtS s t) (g : SqrtS s u) : t = u := by
 unfold SqrtS at h g
 split at h
 · rename_i c; rw [if_pos c] at g; rw [h, g]
 · rename_i c; rw [if_neg c] at g
   obtain ⟨k, l, e, h1, h2⟩ := h
   obtain ⟨k', l', e', g1, g2⟩ := g
   rw [e, e', h1.unique g1, h2.unique g2]
theorem SqrtS.ok {s t : Sk} (h : SqrtS s t) : t.ok := by
 unfold SqrtS at h
 split at h
 · rw [h]; exact Sk.nil_ok
 · obtain ⟨k, l, e, h1, h2⟩ := h
   rw [e]; exact ⟨inK_nat h1.le, inK_nat h2.le⟩
structure SqrtB (b t : Bk) : Prop where
 r1 : ∃ k : Nat, t.re.lo = k ∧ RootIs b.re.set.lo b.im.set.size.lo false k
 r2 : ∃ k : Nat, t.re.hi = k ∧ RootIs b.re.set.hi b.im.set.size.hi true k
 i1 : ∃ k : Nat, (b.im.lo < 0 → t.im.lo = -(k : Int) ∧ RootIs b.re.set.lo.neg b.im.set.lo.neg true k) ∧ (¬ b.im.lo < 0 → t.im.lo = k ∧ RootIs b.re.set.hi.neg b.im.set.lo false k)
 i2 : ∃ k : Nat, (b.im.hi < 0 → t.im.hi = -(k : Int) ∧ RootIs b.re.set.hi.neg b.im.set.hi.neg false k) ∧ (¬ b.im.hi < 0 → t.im.hi = k ∧ RootIs b.re.set.lo.neg b.im.set.hi true k)
theorem SqrtB.unique {b t u : Bk} (h : SqrtB b t) (g : SqrtB b u) : t = u := by
 obtain ⟨k1, a1, b1⟩ := h.r1; obtain ⟨l1, c1, d1⟩ := g.r1
 obtain ⟨k2, a2, b2⟩ := h.r2; obtain ⟨l2, c2, d2⟩ := g.r2
 obtain ⟨k3, a3, b3⟩ := h.i1; obtain ⟨l3, c3, d3⟩ := g.i1
 obtain ⟨k4, a4, b4⟩ := h.i2; obtain ⟨l4, c4, d4⟩ := g.i2
 have e1 : t.re.lo = u.re.lo := by rw [a1, c1, b1.unique d1]
 have e2 : t.re.hi = u.re.hi := by rw [a2, c2, b2.unique d2]
 have e3 : t.im.lo = u.im.lo := by
  by_cases c : b.im.lo < 0
  · rw [(a3 c).1, (c3 c).1, (a3 c).2.unique (c3 c).2]
  · rw [(b3 c).1, (d3 c).1, (b3 c).2.unique (d3 c).2]
 have e4 : t.im.hi = u.im.hi := by
  by_cases c : b.im.hi < 0
  · rw [(a4 c).1, (c4 c).1, (a4 c).2.unique (c4 c).2]
  · rw [(b4 c).1, (d4 c).1, (b4 c).2.unique (d4 c).2]
 obtain ⟨⟨t1, t2⟩, ⟨t3, t4⟩⟩ := t
 obtain ⟨⟨u1, u2⟩, ⟨u3, u4⟩⟩ := u
 dsimp only at e1 e2 e3 e4
 rw [e1, e2, e3, e4]
theorem SqrtB.ok {b t : Bk} (h : SqrtB b t) : t.ok := by
 obtain ⟨k1, a1, b1⟩ := h.r1
 obtain ⟨k2, a2, b2⟩ := h.r2
 obtain ⟨k3, a3, b3⟩ := h.i1
 obtain ⟨k4, a4, b4⟩ := h.i2
 refine ⟨⟨?_, ?_⟩, ⟨?_, ?_⟩⟩
 · rw [a1]; exact inK_nat b1.le
 · rw [a2]; exact inK_nat b2.le
 · by_cases c : b.im.lo < 0
   · rw [(a3 c).1]; exact inK_neg (inK_nat (a3 c).2.le)
   · rw [(b3 c).1]; exact inK_nat (b3 c).2.le
 · by_cases c : b.im.hi < 0
   · rw [(a4 c).1]; exact inK_neg (inK_nat (a4 c).2.le)
   · rw [(b4 c).1]; exact inK_nat (b4 c).2.le

def isRoot (k a : Nat) : Prop := k * k ≤ a ∧ a < (k + 1) * (k + 1)
theorem isRoot.unique {k j a : Nat} (h : isRoot k a) (g : isRoot j a) : k = j := by
 have key : ∀ {k j : Nat}, isRoot k a → isRoot j a → ¬ k < j := by
  intro k j h g c
  have := Nat.mul_le_mul (show k + 1 ≤ j by omega) (show k + 1 ≤ j by omega)
  have h2 := h.2; have g1 := g.1
  omega
 have := key h g; have := key g h
 omega
theorem le_sq (n : Nat) : n ≤ n * n := by
 rcases Nat.eq_zero_or_pos n with e | e
 · omega
 · exact Nat.le_mul_of_pos_left _ e
theorem isRoot.le {k a : Nat} (h : isRoot k a) : k ≤ a := Nat.le_trans (le_sq k) h.1
theorem sz_low {q : Rat} {K : Nat} (h : (⟨q, 0⟩ : Cq).sz ≤ K) (h0 : 0 < q) : 1 ≤ q * ((2 ^ K : Nat) : Rat) := by
 have r := (⟨q, 0⟩ : Cq).canon.rep
 have d := Nat.le_of_lt (lt_of_bl (Nat.le_trans (Cq.szD (⟨q, 0⟩ : Cq)) h))
 have r1 := r.re
 have dp : (0 : Rat) < ((⟨q, 0⟩ : Cq).D : Rat) := by have := r.pos; exact_mod_cast (by omega : 0 < (⟨q, 0⟩ : Cq).D)
 have e : q * ((⟨q, 0⟩ : Cq).D : Rat) = ((⟨q, 0⟩ : Cq).A : Rat) := by
  have r1 : q = ((⟨q, 0⟩ : Cq).A : Rat) / ((⟨q, 0⟩ : Cq).D : Rat) := r1
  have := Rat.div_mul_cancel (a := ((⟨q, 0⟩ : Cq).A : Rat)) (natCast_ne r.pos)
  rw [← r1] at this; exact this
 have p : (0 : Rat) < ((⟨q, 0⟩ : Cq).A : Rat) := by rw [← e]; exact Rat.mul_pos h0 dp
 have p1 : (1 : Rat) ≤ ((⟨q, 0⟩ : Cq).A : Rat) := by
  have : 0 < (⟨q, 0⟩ : Cq).A := by exact_mod_cast p
  exact_mod_cast (by omega : 1 ≤ (⟨q, 0⟩ : Cq).A)
 have m := Rat.mul_le_mul_of_nonneg_left (show ((⟨q, 0⟩ : Cq).D : Rat) ≤ ((2 ^ K : Nat) : Rat) by exact_mod_cast d) (Rat.le_of_lt h0)
 grind
theorem sz_high {q : Rat} {K : Nat} (h : (⟨q, 0⟩ : Cq).sz ≤ K) : q ≤ ((2 ^ K : Nat) : Rat) := by
 have r := (⟨q, 0⟩ : Cq).canon.rep
 have a := lt_of_bl (Nat.le_trans (Cq.szA (⟨q, 0⟩ : Cq)) h)
 have r1 : q = ((⟨q, 0⟩ : Cq).A : Rat) / ((⟨q, 0⟩ : Cq).D : Rat) := r.re
 have dp : (1 : Rat) ≤ ((⟨q, 0⟩ : Cq).D : Rat) := by have := r.pos; exact_mod_cast (by omega : 1 ≤ (⟨q, 0⟩ : Cq).D)
 have e : q * ((⟨q, 0⟩ : Cq).D : Rat) = ((⟨q, 0⟩ : Cq).A : Rat) := by
  have := Rat.div_mul_cancel (a := ((⟨q, 0⟩ : Cq).A : Rat)) (natCast_ne r.pos)
  rw [← r1] at this; exact this
 have ub : ((⟨q, 0⟩ : Cq).A : Rat) ≤ ((2 ^ K : Nat) : Rat) := by
  have : (⟨q, 0⟩ : Cq).A ≤ ((2 ^ K : Nat) : Int) := by omega
  exact_mod_cast this
 by_cases c : 0 ≤ q
 · have := Rat.mul_le_mul_of_nonneg_left dp c; grind
 · have : (0 : Rat) ≤ ((2 ^ K : Nat) : Rat) := by exact_mod_cast Nat.zero_le _
   grind
theorem small {a b u : Rat} {S K : Nat} (ha : (⟨a, 0⟩ : Cq).sz ≤ S) (hb : (⟨b, 0⟩ : Cq).sz ≤ S) (b0 : 0 < b) (hK : 2 * S ≤ K) (u0 : 0 ≤ u) (hu : u * ((2 ^ K : Nat) : Rat) = 1) : u * a ≤ b := by
 have h1 := sz_high ha
 have h2 := sz_low hb b0
 have e : ((2 ^ S : Nat) : Rat) * ((2 ^ S : Nat) : Rat) ≤ ((2 ^ K : Nat) : Rat) := by
  have : 2 ^ S * 2 ^ S ≤ 2 ^ K := by rw [← Nat.pow_add]; exact Nat.pow_le_pow_right (by omega) (by omega)
  exact_mod_cast this
 have p : (0 : Rat) < ((2 ^ S : Nat) : Rat) := by exact_mod_cast Nat.pow_pos (by omega)
 have k1 := Rat.mul_le_mul_of_nonneg_left h1 u0
 have k2 := Rat.mul_le_mul_of_nonneg_left e u0
 -- u 2^S 2^S ≤ 1 ≤ b 2^S
 refine Rat.le_trans k1 ?_
 refine Rat.not_lt.1 fun g => ?_
 have := Rat.mul_lt_mul_of_pos_right g p
 grind

-- a bound is not above another one
def Eb.Le (a b : Eb) : Prop := ¬ Eb.LT b a
theorem Eb.Le.trans {a b c : Eb} (h : a.Le b) (k : b.Le c) : a.Le c := fun g => by
 rcases Eb.LT.weak (b := b) g with p | p
 · exact k p
 · exact h p
theorem Eb.Le.refl (a : Eb) : a.Le a := Eb.LT.irrefl
theorem fin_le {a b : Rat} : Eb.Le ⟨0, a⟩ ⟨0, b⟩ ↔ a ≤ b := by unfold Eb.Le; rw [fin_lt]; exact ⟨fun h => Rat.not_lt.1 h, fun h => Rat.not_lt.2 h⟩
theorem minus_le {a : Eb} (_ : a.ok) (x : Rat) : Eb.Le ⟨-1, x⟩ a := by
 rcases Eb.ok_range ‹a.ok› with h | h | h
 · rintro (g | ⟨_, g, _⟩)
   · have : a.inf < -1 := g; omega
   · exact absurd g (by show ¬ (-1 : Int) = 0; decide)
 · rintro (g | ⟨_, g, _⟩)
   · have : a.inf < -1 := g; omega
   · exact absurd g (by show ¬ (-1 : Int) = 0; decide)
 · rintro (g | ⟨_, g, _⟩)
   · have : a.inf < -1 := g; omega
   · exact absurd g (by show ¬ (-1 : Int) = 0; decide)
theorem le_plus {a : Eb} (_ : a.ok) (x : Rat) : Eb.Le a ⟨1, x⟩ := by
 rintro (g | ⟨g, _, _⟩)
 · have g : (1 : Int) < a.inf := g
   rcases Eb.ok_range ‹a.ok› with h | h | h <;> omega
 · exact absurd g (by show ¬ (1 : Int) = 0; decide)
theorem isIn_of {s t : Sk} (h1 : t.lo ≤ s.lo) (h2 : s.hi ≤ t.hi) : s.isIn t = true := by
 unfold Sk.isIn; rw [Bool.and_eq_true, decide_eq_true_iff, decide_eq_true_iff]; exact ⟨h1, h2⟩
theorem mul_lo_le {a b : Es} {e : Eb} (h : e ∈ Es.prods a b) : Eb.Le (a.mul b).lo e := Eb.pick_first (way := -1) (.inr rfl) e h
theorem le_mul_hi {a b : Es} {e : Eb} (h : e ∈ Es.prods a b) : Eb.Le e (a.mul b).hi := Eb.pick_first (way := 1) (.inl rfl) e h
theorem mul_okL (a b : Es) : (a.mul b).lo.ok := Es.prods_ok a b _ (Eb.pick_in (Es.prods_ne a b))
theorem mul_okH (a b : Es) : (a.mul b).hi.ok := Es.prods_ok a b _ (Eb.pick_in (Es.prods_ne a b))
theorem fin_of {e : Eb} (h : e.inf = 0) : e = ⟨0, e.x⟩ := by cases e; dsimp only at h; rw [h]
theorem inf_of {e : Eb} (ho : e.ok) (h : e.inf ≠ 0) : e = ⟨1, 0⟩ ∨ e = ⟨-1, 0⟩ := by
 rcases ho with g | ⟨g, g2 | g2⟩
 · exact absurd g h
 · left; cases e; dsimp only at g g2; rw [g, g2]
 · right; cases e; dsimp only at g g2; rw [g, g2]
theorem fin_mul (a b : Rat) : (⟨0, a⟩ : Eb).mul ⟨0, b⟩ = ⟨0, a * b⟩ := by unfold Eb.mul; rw [if_pos ⟨rfl, rfl⟩]
theorem endE_bot : endE (-(infR : Int)) = ⟨-1, 0⟩ := by unfold endE; rw [if_neg (by decide), if_pos rfl]
-- numbers about roots
theorem rtP_quad {x y q : Rat} (hq : 0 ≤ q) (h : rtP x (x * x + y * y) q) : (q * q * 2) * (q * q * 2) - 2 * (q * q * 2) * x ≤ y * y := by
 have q0 : 0 ≤ q * q := Rat.mul_nonneg hq hq
 rcases h with h | h
 · unfold rtD at h
   have a : 0 ≤ q * q * 2 * (x - q * q * 2) := Rat.mul_nonneg (by grind) (by grind)
   have b : 0 ≤ q * q * 2 * (q * q * 2) := mul_self_nonneg _
   have c := mul_self_nonneg y
   grind
 · unfold rtD at h; grind
theorem RootIs.low {e f : Eb} {k : Nat} (h : RootIs e f false k) (hk : k < infR) : e.inf ≤ 0 ∧ f.inf = 0 ∧ (e.inf < 0 → k = 0) ∧ (e.inf = 0 → rtP e.x (e.x * e.x + f.x * f.x) (fkq (k : Int))) := by
 unfold RootIs at h
 by_cases c : 0 < e.inf ∨ f.inf ≠ 0
 · rw [if_pos c] at h; omega
 · rw [if_neg c] at h
   refine ⟨by omega, by omega, fun g => ?_, fun g => ?_⟩
   · rw [if_pos g] at h; exact h
   · rw [if_neg (by omega)] at h
     obtain ⟨r, h1, h2⟩ := h
     rw [if_neg (fun g => by exact absurd g.1 (by decide))] at h2
     rw [h2]; exact h1.le
theorem RootIs.inf {e f : Eb} {up : Bool} {k : Nat} (h : RootIs e f up k) (hk : 0 < e.inf ∨ f.inf ≠ 0) : k = infR := by unfold RootIs at h; rw [if_pos hk] at h; exact h
theorem RootIs.low_fin {e f : Eb} {k : Nat} (h : RootIs e f false k) (h1 : e.inf ≤ 0) (h2 : f.inf = 0) : k < infR := by
 unfold RootIs at h
 rw [if_neg (by omega)] at h
 split at h
 · rw [h]; decide
 · obtain ⟨r, a, b⟩ := h
   rw [if_neg (fun g => by exact absurd g.1 (by decide))] at b
   rw [b]; exact a.lt
-- the parts of what is proper
theorem lo_inf {s : Sk} (p : s.proper) : (endE s.lo).inf = 0 ∨ endE s.lo = ⟨-1, 0⟩ := by
 by_cases c : (endE s.lo).inf = 0
 · exact .inl c
 · exact .inr (endE_lo p.2.1 c)
theorem hi_inf {s : Sk} (p : s.proper) : (endE s.hi).inf = 0 ∨ endE s.hi = ⟨1, 0⟩ := by
 by_cases c : (endE s.hi).inf = 0
 · exact .inl c
 · exact .inr (endE_hi p.2.2 c)
theorem abs_x {a : Eb} (h : a.inf = 0) : a.abs.inf = 0 ∧ 0 ≤ a.abs.x ∧ a.abs.x * a.abs.x = a.x * a.x := by
 rw [abs_fin h]
 refine ⟨rfl, ?_, ?_⟩
 · show (0 : Rat) ≤ (if a.x < 0 then -a.x else a.x); split <;> grind
 · show (if a.x < 0 then -a.x else a.x) * (if a.x < 0 then -a.x else a.x) = _; split <;> grind
theorem le_fin_x {a b : Eb} (ha : a.inf = 0) (hb : b.inf = 0) (h : Eb.Le a b) : a.x ≤ b.x := by
 rw [fin_of ha, fin_of hb, fin_le] at h; exact h
structure Sizes (s : Sk) : Prop where
 lo0 : s.set.size.lo.inf = 0
 pos : 0 ≤ s.lo → s.set.size.lo = endE s.lo
 neg : s.hi < 0 → s.set.size.lo = (endE s.hi).neg
 hi1 : s.set.size.hi.inf = 0 → (endE s.lo).inf = 0 ∧ (endE s.lo).x * (endE s.lo).x ≤ s.set.size.hi.x * s.set.size.hi.x
 hi2 : s.set.size.hi.inf = 0 → (endE s.hi).inf = 0 ∧ (endE s.hi).x * (endE s.hi).x ≤ s.set.size.hi.x * s.set.size.hi.x
 lo1 : (endE s.lo).inf = 0 → s.set.size.lo.x * s.set.size.lo.x ≤ (endE s.lo).x * (endE s.lo).x
 lo2 : (endE s.hi).inf = 0 → s.set.size.lo.x * s.set.size.lo.x ≤ (endE s.hi).x * (endE s.hi).x
theorem sizes {s : Sk} (h : s.ok) (p : s.proper) : Sizes s := by
 have zq := set_zero_eq h
 have p1 := p.1
 have a1 := abs_ok (endE_ok s.lo); have a2 := abs_ok (endE_ok s.hi)
 have abp : ∀ {k : Int}, inK k → 0 ≤ k → (endE k).abs = endE k := by
  intro k hk h0
  unfold Eb.abs; rw [sign_endE hk, if_neg]; unfold cmpZ; split
  · omega
  · split <;> decide
 have abn : ∀ {k : Int}, inK k → k < 0 → (endE k).abs = (endE k).neg := by
  intro k hk h0
  unfold Eb.abs; rw [sign_endE hk, if_pos]; rw [cmpZ_lt h0]; decide
 have eH : s.set.size.hi = Eb.pick 1 [(endE s.lo).abs, (endE s.hi).abs] := by unfold Es.size; split <;> rfl
 have hiF : ∀ {e}, e ∈ [(endE s.lo).abs, (endE s.hi).abs] → Eb.Le e s.set.size.hi := by
  intro e he; rw [eH]; exact Eb.pick_first (way := 1) (.inl rfl) e he
 have hik : ∀ {k : Int}, (endE k).abs ∈ [(endE s.lo).abs, (endE s.hi).abs] → s.set.size.hi.inf = 0 → (endE k).inf = 0 ∧ (endE k).x * (endE k).x ≤ s.set.size.hi.x * s.set.size.hi.x := by
  intro k hk h0
  have hl := hiF hk
  have fin : (endE k).inf = 0 := by
   refine Classical.byContradiction fun c => ?_
   rw [abs_inf c (endE_ok k)] at hl
   exact hl (.inl (by show s.set.size.hi.inf < 1; omega))
  obtain ⟨b1, b2, b3⟩ := abs_x fin
  have := sq_mono b2 (le_fin_x b1 h0 hl)
  exact ⟨fin, by rw [b3] at this; exact this⟩
 by_cases z : s.set.zero = true
 · have eL : s.set.size.lo = Eb.fin 0 := by unfold Es.size; rw [if_pos z]
   rw [zq, Bool.and_eq_true, decide_eq_true_iff, decide_eq_true_iff] at z
   refine ⟨by rw [eL]; rfl, fun g => ?_, fun g => by omega, hik (by simp), hik (by simp), fun _ => ?_, fun _ => ?_⟩
   · rw [eL, show s.lo = 0 by omega, endE_zero]
   · rw [eL]; show (0 : Rat) * 0 ≤ _; have := mul_self_nonneg (endE s.lo).x; grind
   · rw [eL]; show (0 : Rat) * 0 ≤ _; have := mul_self_nonneg (endE s.hi).x; grind
 · have eL : s.set.size.lo = Eb.pick (-1) [(endE s.lo).abs, (endE s.hi).abs] := by unfold Es.size; rw [if_neg z]; rfl
   have hl2 : 0 < s.lo ∨ s.hi < 0 := by
    refine Classical.byContradiction fun c => z ?_
    rw [zq, Bool.and_eq_true, decide_eq_true_iff, decide_eq_true_iff]; omega
   have pos : 0 ≤ s.lo → s.set.size.lo = endE s.lo := by
    intro g
    rw [eL, abp h.lo g, abp h.hi (by omega)]
    show (if (endE s.hi).cmp (endE s.lo) = -1 then endE s.hi else endE s.lo) = _
    rw [if_neg]
    intro c
    have := Eb.cmp_neg1.1 c
    rcases Int.lt_or_eq_of_le p1 with q | q
    · exact Eb.LT.irrefl (this.trans (endE_lt h.lo h.hi q))
    · rw [q] at this; exact Eb.LT.irrefl this
   have neg : s.hi < 0 → s.set.size.lo = (endE s.hi).neg := by
    intro g
    rw [eL, abn h.lo (by omega), abn h.hi g]
    show (if (endE s.hi).neg.cmp (endE s.lo).neg = -1 then (endE s.hi).neg else (endE s.lo).neg) = _
    rcases Int.lt_or_eq_of_le p1 with q | q
    · rw [if_pos]; rw [Eb.cmp_neg1, Eb.LT_neg]; exact endE_lt h.lo h.hi q
    · rw [q]; split <;> rfl
   have lo0 : s.set.size.lo.inf = 0 := by
    rcases hl2 with g | g
    · rw [pos (by omega)]
      rcases lo_inf p with q | q
      · exact q
      · have := endE_lt (k := 0) (l := s.lo) zero_in h.lo g
        rw [endE_zero, q] at this
        exact absurd this (minus_le (Eb.fin_ok 0) 0)
    · rw [neg g]
      rcases hi_inf p with q | q
      · show -(endE s.hi).inf = 0; omega
      · have := endE_lt (k := s.hi) (l := 0) h.hi zero_in g
        rw [endE_zero, q] at this
        exact absurd this (le_plus (Eb.fin_ok 0) 0)
   have nn : 0 ≤ s.set.size.lo.x := by
    have m := Eb.pick_in (way := -1) (es := [(endE s.lo).abs, (endE s.hi).abs]) (by simp)
    rw [← eL] at m
    simp only [List.mem_cons, List.not_mem_nil, or_false] at m
    rcases m with m | m
    · by_cases c : (endE s.lo).inf = 0
      · rw [m]; exact (abs_x c).2.1
      · rw [m, abs_inf c (endE_ok _)]; exact Rat.le_refl
    · by_cases c : (endE s.hi).inf = 0
      · rw [m]; exact (abs_x c).2.1
      · rw [m, abs_inf c (endE_ok _)]; exact Rat.le_refl
   have lok : ∀ {k : Int}, (endE k).abs ∈ [(endE s.lo).abs, (endE s.hi).abs] → (endE k).inf = 0 → s.set.size.lo.x * s.set.size.lo.x ≤ (endE k).x * (endE k).x := by
    intro k hk c
    obtain ⟨b1, b2, b3⟩ := abs_x c
    have hl : Eb.Le s.set.size.lo (endE k).abs := by rw [eL]; exact Eb.pick_first (way := -1) (.inr rfl) _ hk
    have := sq_mono nn (le_fin_x lo0 b1 hl)
    rw [b3] at this; exact this
   exact ⟨lo0, pos, neg, hik (by simp), hik (by simp), lok (by simp), lok (by simp)⟩

theorem rtP_of_quad {x y q : Rat} (h : (q * q * 2) * (q * q * 2) - 2 * (q * q * 2) * x ≤ y * y) : rtP x (x * x + y * y) q := by
 by_cases d : rtD x q < 0
 · exact .inl d
 · refine .inr ?_
   unfold rtD; grind
theorem rtP_wider {x y x' y' q : Rat} (hq : 0 ≤ q) (hx : x ≤ x') (hy : y * y ≤ y' * y') (h : rtP x (x * x + y * y) q) : rtP x' (x' * x' + y' * y') q := by
 have a := rtP_quad hq h
 refine rtP_of_quad ?_
 have b := Rat.mul_le_mul_of_nonneg_left hx (show 0 ≤ 2 * (q * q * 2) by have := mul_self_nonneg q; grind)
 grind
theorem rtC_wider {x y x' y' q : Rat} (hq : 0 ≤ q) (hx : x ≤ x') (hy : y * y ≤ y' * y') (h : rtP x (x * x + y * y) q) (g : rtC x' (x' * x' + y' * y') q = 0) : rtC x (x * x + y * y) q = 0 := by
 have a := rtP_quad hq h
 obtain ⟨g1, g2⟩ := rtC_zero.1 g
 have b := Rat.mul_le_mul_of_nonneg_left hx (show 0 ≤ 2 * (q * q * 2) by have := mul_self_nonneg q; grind)
 refine rtC_zero.2 ⟨by unfold rtD at g1 ⊢; grind, ?_⟩
 unfold rtD at g2 ⊢
 grind
theorem RootIs.mono {e f e' f' : Eb} {u u' : Bool} {k l : Nat} (h : RootIs e f u k) (g : RootIs e' f' u' l) (he : Eb.Le e e') (hf : f'.inf = 0 → f.inf = 0 ∧ f.x * f.x ≤ f'.x * f'.x) (hu : u = true → u' = true) : k ≤ l := by
 have kl := h.le
 unfold RootIs at h g
 by_cases c : 0 < e'.inf ∨ f'.inf ≠ 0
 · rw [if_pos c] at g; omega
 rw [if_neg c] at g
 obtain ⟨f0, fx⟩ := hf (by omega)
 have ei : e.inf ≤ e'.inf := by
  refine Int.not_lt.1 fun q => he (.inl q)
 rw [if_neg (by omega)] at h
 by_cases d : e.inf < 0
 · rw [if_pos d] at h; omega
 rw [if_neg d] at h
 rw [if_neg (by omega)] at g
 obtain ⟨r, h1, h2⟩ := h
 obtain ⟨s, g1, g2⟩ := g
 have ex : e.x ≤ e'.x := le_fin_x (by omega) (by omega) he
 have rs : r ≤ s := by
  refine Nat.not_lt.1 fun q => ?_
  rcases g1.next with n | n
  · have := h1.lt; omega
  · exact n (rtP_wider (fkq_nonneg _) ex fx (rtP_anti _ _ _ _ (fkq_nonneg _) (fkq_le (by omega)) h1.le))
 by_cases q : r = s
 · subst q
   by_cases z : u = true ∧ rtC e.x (e.x * e.x + f.x * f.x) (fkq (r : Int)) ≠ 0
   · rw [if_pos z] at h2
     rw [if_pos ⟨hu z.1, fun w => z.2 (rtC_wider (fkq_nonneg _) ex fx h1.le w)⟩] at g2
     omega
   · rw [if_neg z] at h2
     split at g2 <;> omega
 · split at h2 <;> split at g2 <;> omega
def UpB (x y : Sk) (t : Bk) : Prop := ∃ k1 k2 k3 k4 : Nat, t = ⟨⟨(k1 : Int), (k2 : Int)⟩, ⟨(k3 : Int), (k4 : Int)⟩⟩ ∧ RootIs (endE x.lo) (endE y.lo) false k1 ∧ RootIs (endE x.hi) (endE y.hi) true k2 ∧ RootIs (endE x.hi).neg (endE y.lo) false k3 ∧ RootIs (endE x.lo).neg (endE y.hi) true k4
theorem endE_mono {k l : Int} (hk : inK k) (hl : inK l) (h : k ≤ l) : Eb.Le (endE k) (endE l) := by
 rcases Int.lt_or_eq_of_le h with q | q
 · intro g; exact Eb.LT.irrefl (g.trans (endE_lt hk hl q))
 · rw [q]; exact Eb.Le.refl _
theorem neg_mono {k l : Int} (hk : inK k) (hl : inK l) (h : k ≤ l) : Eb.Le (endE l).neg (endE k).neg := by
 rw [← endE_neg, ← endE_neg]; exact endE_mono (inK_neg hl) (inK_neg hk) (by omega)
theorem y_fin {y : Sk} (p : y.proper) (h0 : 0 ≤ y.lo) : (endE y.lo).inf = 0 ∧ 0 ≤ (endE y.lo).x := by
 obtain ⟨p1, p2, p3⟩ := p
 have e : endE y.lo = ⟨0, fkq y.lo⟩ := by unfold endE; rw [if_neg p2, if_neg (by omega)]
 rw [e]; exact ⟨rfl, by have := fkq_le h0; rw [fkq_zero] at this; exact this⟩
theorem y_le {y : Sk} (h : y.ok) (p : y.proper) (h0 : 0 ≤ y.lo) (hi : (endE y.hi).inf = 0) : (endE y.lo).inf = 0 ∧ (endE y.lo).x * (endE y.lo).x ≤ (endE y.hi).x * (endE y.hi).x := by
 obtain ⟨a, b⟩ := y_fin p h0
 exact ⟨a, sq_mono b (le_fin_x a hi (endE_mono h.lo h.hi p.1))⟩
theorem inf_nn {x : Sk} (p : x.proper) : (endE x.lo).inf ≤ 0 ∧ (endE x.hi).neg.inf ≤ 0 := by
 constructor
 · rcases lo_inf p with q | q
   · omega
   · rw [q]; decide
 · rcases hi_inf p with q | q
   · show -(endE x.hi).inf ≤ 0; omega
   · rw [q]; decide
theorem UpB.proper {x y : Sk} {t : Bk} (h : UpB x y t) (hx : x.ok) (px : x.proper) (hy : y.ok) (py : y.proper) (h0 : 0 ≤ y.lo) : t.ok ∧ t.proper := by
 obtain ⟨k1, k2, k3, k4, rfl, r1, r2, r3, r4⟩ := h
 have i := inf_nn px
 have f := y_fin py h0
 have l1 := r1.low_fin i.1 f.1
 have l3 := r3.low_fin i.2 f.1
 have m1 := r1.mono r2 (endE_mono hx.lo hx.hi px.1) (y_le hy py h0) (fun g => absurd g (by decide))
 have m2 := r3.mono r4 (neg_mono hx.lo hx.hi px.1) (y_le hy py h0) (fun g => absurd g (by decide))
 have ip : 0 < infR := by decide
 refine ⟨⟨⟨inK_nat r1.le, inK_nat r2.le⟩, ⟨inK_nat r3.le, inK_nat r4.le⟩⟩, ⟨?_, ?_, ?_⟩, ⟨?_, ?_, ?_⟩⟩
 · show (k1 : Int) ≤ k2; omega
 · show (k1 : Int) ≠ infR; omega
 · show (k2 : Int) ≠ -(infR : Int); omega
 · show (k3 : Int) ≤ k4; omega
 · show (k3 : Int) ≠ infR; omega
 · show (k4 : Int) ≠ -(infR : Int); omega
theorem neg_neg (e : Eb) : e.neg.neg = e := by cases e; show Eb.mk (- -_) (- -_) = _; rw [Int.neg_neg, Rat.neg_neg]

theorem mul_infE {e f : Eb} (h : e.inf ≠ 0 ∨ f.inf ≠ 0) : e.mul f = ⟨e.sign * f.sign, 0⟩ := by unfold Eb.mul; rw [if_neg (by omega)]
theorem sign_finE {e : Eb} (h : e.inf = 0) : e.sign = cmpR e.x 0 := by
 show (if e.inf ≠ 0 ∨ (0 : Int) ≠ 0 then cmpZ e.inf 0 else cmpR e.x 0) = _
 rw [if_neg (by omega)]
theorem cmpR_nn {x : Rat} : 0 ≤ cmpR x 0 ↔ 0 ≤ x := by
 unfold cmpR
 by_cases c : x < 0
 · rw [if_pos c]; exact ⟨fun h => absurd h (by decide), fun h => by grind⟩
 · rw [if_neg c]; refine ⟨fun _ => Rat.not_lt.1 c, fun _ => ?_⟩; split <;> decide
theorem not_plus {x : Rat} {c : Rat} : ¬ Eb.Le ⟨1, x⟩ ⟨0, c⟩ := fun h => h (.inl (by show (0 : Int) < 1; decide))
theorem not_minus {x : Rat} {c : Rat} : ¬ Eb.Le ⟨0, c⟩ ⟨-1, x⟩ := fun h => h (.inl (by show (-1 : Int) < 0; decide))
theorem not_fin {e : Eb} {x : Rat} (h : e.inf = 0) : ¬ Eb.Le e ⟨-1, x⟩ := fun g => g (.inl (by show (-1 : Int) < e.inf; omega))
theorem not_fin2 {e : Eb} {x : Rat} (h : e.inf = 0) : ¬ Eb.Le ⟨1, x⟩ e := fun g => g (.inl (by show e.inf < 1; omega))
theorem add_fin {a b : Eb} (ha : a.inf = 0) (hb : b.inf = 0) : a.add b = ⟨0, a.x + b.x⟩ := by unfold Eb.add; rw [if_neg (by omega), if_neg (by omega)]
theorem add_infl {a b : Eb} (ha : a.inf ≠ 0) : a.add b = a := by unfold Eb.add; rw [if_pos ha]
theorem add_infr {a b : Eb} (ha : a.inf = 0) (hb : b.inf ≠ 0) : a.add b = b := by unfold Eb.add; rw [if_neg (by omega), if_pos hb]
section
variable {b t : Bk} (hb : b.ok) (pb : b.proper) (h : SqrtB b t)
include hb pb h
end

def InE (a : Eb) (E : Es) : Prop := Eb.Le E.lo a ∧ Eb.Le a E.hi
structure Es.ok (E : Es) : Prop where
 lo : E.lo.ok
 hi : E.hi.ok
theorem set_ok (s : Sk) : s.set.ok := ⟨endE_ok _, endE_ok _⟩
theorem mul_okE (a b : Es) : (a.mul b).ok := ⟨mul_okL a b, mul_okH a b⟩
theorem add_okE {a b : Es} (h : a.ok) (k : b.ok) : (a.add b).ok := ⟨Eb.add_ok h.lo k.lo, Eb.add_ok h.hi k.hi⟩
theorem neg_okE {a : Es} (h : a.ok) : a.neg.ok := ⟨Eb.neg_ok h.hi, Eb.neg_ok h.lo⟩
theorem Le_neg {a b : Eb} : Eb.Le a.neg b.neg ↔ Eb.Le b a := by unfold Eb.Le; rw [Eb.LT_neg]
theorem InE.neg {a : Eb} {E : Es} (h : InE a E) : InE a.neg E.neg := ⟨Le_neg.2 h.2, Le_neg.2 h.1⟩
theorem three {a : Eb} (h : a.ok) : a = ⟨0, a.x⟩ ∨ a = ⟨1, 0⟩ ∨ a = ⟨-1, 0⟩ := by
 by_cases c : a.inf = 0
 · exact .inl (fin_of c)
 · exact .inr (inf_of h c)
theorem sgn_fin (x : Rat) : (⟨0, x⟩ : Eb).sign = cmpR x 0 := sign_finE rfl
theorem sgn_top : (⟨1, 0⟩ : Eb).sign = 1 := by decide
theorem sgn_bot : (⟨-1, 0⟩ : Eb).sign = -1 := by decide
theorem infl_le {n m : Int} {x y : Rat} (h : n < m) : Eb.Le ⟨n, x⟩ ⟨m, y⟩ := by
 rintro (g | ⟨g1, g2, _⟩)
 · have g : m < n := g; omega
 · have g1 : m = 0 := g1; have g2 : n = 0 := g2; omega
theorem int_le {n m : Int} (h : n ≤ m) : Eb.Le ⟨n, 0⟩ ⟨m, 0⟩ := by
 rcases Int.lt_or_eq_of_le h with g | g
 · exact infl_le g
 · rw [g]; exact Eb.Le.refl _
theorem sgn_mono {b c : Eb} (h : Eb.Le b c) : b.sign ≤ c.sign := by
 have r1 : b.sign = -1 ∨ b.sign = 0 ∨ b.sign = 1 := Eb.cmp_range _ _
 have r2 : c.sign = -1 ∨ c.sign = 0 ∨ c.sign = 1 := Eb.cmp_range _ _
 have up : b.sign = 1 → c.sign = 1 := by
  intro g
  have g : Eb.LT (Eb.fin 0) b := Eb.cmp_1.1 g
  refine Eb.cmp_1.2 ?_
  rcases Eb.LT.weak (b := c) g with q | q
  · exact q
  · exact absurd q h
 have dn : c.sign = -1 → b.sign = -1 := by
  intro g
  have g : Eb.LT c (Eb.fin 0) := Eb.cmp_neg1.1 g
  refine Eb.cmp_neg1.2 ?_
  rcases Eb.LT.weak (b := b) g with q | q
  · exact absurd q h
  · exact q
 omega
theorem mul_mono {a b c : Eb} (ha : a.ok) (hb : b.ok) (hc : c.ok) (h0 : 0 ≤ a.sign) (h : Eb.Le b c) : Eb.Le (a.mul b) (a.mul c) := by
 have sm := sgn_mono h
 by_cases ia : a.inf = 0
 · have x0 : 0 ≤ a.x := by rw [sign_finE ia] at h0; exact cmpR_nn.1 h0
   by_cases ib : b.inf = 0
   · by_cases ic : c.inf = 0
     · rw [fin_of ia, fin_of ib, fin_of ic, fin_mul, fin_mul, fin_le]
       exact Rat.mul_le_mul_of_nonneg_left (le_fin_x ib ic h) x0
     · rw [mul_infE (.inr ic)]
       rcases inf_of hc ic with e | e
       · rw [e, sgn_top, Int.mul_one, fin_of ia, fin_of ib, fin_mul, sgn_fin]
         by_cases z : a.x = 0
         · rw [z, Rat.zero_mul]; unfold cmpR; rw [if_neg (by grind), if_pos rfl]; exact Eb.Le.refl _
         · have : cmpR a.x 0 = 1 := by unfold cmpR; rw [if_neg (by grind), if_neg z]
           rw [this]; exact infl_le (by decide)
       · rw [e] at h
         exact absurd h (not_fin ib)
   · rw [mul_infE (.inr ib)]
     rcases inf_of hb ib with e | e
     · rw [e] at h
       have ic : c.inf ≠ 0 := fun g => not_fin2 g h
       rw [mul_infE (.inr ic)]
       exact int_le (Int.mul_le_mul_of_nonneg_left sm h0)
     · by_cases ic : c.inf = 0
       · rw [e, sgn_bot, fin_of ia, fin_of ic, fin_mul, sgn_fin]
         by_cases z : a.x = 0
         · rw [z, Rat.zero_mul]; unfold cmpR; rw [if_neg (by grind), if_pos rfl]; exact Eb.Le.refl _
         · have : cmpR a.x 0 = 1 := by unfold cmpR; rw [if_neg (by grind), if_neg z]
           rw [this]; exact infl_le (by decide)
       · rw [mul_infE (.inr ic)]
         exact int_le (Int.mul_le_mul_of_nonneg_left sm h0)
 · rw [mul_infE (.inl ia), mul_infE (.inl ia)]
   exact int_le (Int.mul_le_mul_of_nonneg_left sm h0)
theorem mul_anti {a b c : Eb} (ha : a.ok) (hb : b.ok) (hc : c.ok) (h0 : a.sign ≤ 0) (h : Eb.Le b c) : Eb.Le (a.mul c) (a.mul b) := by
 have e : ∀ d : Eb, a.mul d = (a.neg.mul d).neg := fun d => by rw [Eb.mul_neg, Eb.neg_neg]
 rw [e b, e c, Le_neg]
 exact mul_mono (Eb.neg_ok ha) hb hc (by rw [Eb.sign_neg]; omega) h
theorem InE.mul {a b : Eb} {E F : Es} (ha : a.ok) (hb : b.ok) (hE : E.ok) (hF : F.ok) (h : InE a E) (k : InE b F) : InE (a.mul b) (E.mul F) := by
 -- one of the first set's ends, for what is to be below or above
 have s1 : (∃ e, (e = E.lo ∨ e = E.hi) ∧ Eb.Le (e.mul b) (a.mul b)) ∧ (∃ e, (e = E.lo ∨ e = E.hi) ∧ Eb.Le (a.mul b) (e.mul b)) := by
  rw [Eb.mul_comm a b]
  by_cases c : 0 ≤ b.sign
  · exact ⟨⟨E.lo, .inl rfl, by rw [Eb.mul_comm E.lo]; exact mul_mono hb hE.lo ha c h.1⟩, ⟨E.hi, .inr rfl, by rw [Eb.mul_comm E.hi]; exact mul_mono hb ha hE.hi c h.2⟩⟩
  · exact ⟨⟨E.hi, .inr rfl, by rw [Eb.mul_comm E.hi]; exact mul_anti hb ha hE.hi (by omega) h.2⟩, ⟨E.lo, .inl rfl, by rw [Eb.mul_comm E.lo]; exact mul_anti hb hE.lo ha (by omega) h.1⟩⟩
 have s2 : ∀ e : Eb, e.ok → (∃ f, (f = F.lo ∨ f = F.hi) ∧ Eb.Le (e.mul f) (e.mul b)) ∧ (∃ f, (f = F.lo ∨ f = F.hi) ∧ Eb.Le (e.mul b) (e.mul f)) := by
  intro e he
  by_cases c : 0 ≤ e.sign
  · exact ⟨⟨F.lo, .inl rfl, mul_mono he hF.lo hb c k.1⟩, ⟨F.hi, .inr rfl, mul_mono he hb hF.hi c k.2⟩⟩
  · exact ⟨⟨F.hi, .inr rfl, mul_anti he hb hF.hi (by omega) k.2⟩, ⟨F.lo, .inl rfl, mul_anti he hF.lo hb (by omega) k.1⟩⟩
 have mem : ∀ e f, (e = E.lo ∨ e = E.hi) → (f = F.lo ∨ f = F.hi) → e.mul f ∈ Es.prods E F := by
  rintro e f (rfl | rfl) (rfl | rfl) <;> simp [Es.prods]
 have oke : ∀ e, (e = E.lo ∨ e = E.hi) → e.ok := by
  rintro e (rfl | rfl)
  · exact hE.lo
  · exact hE.hi
 obtain ⟨⟨e1, m1, p1⟩, ⟨e2, m2, p2⟩⟩ := s1
 obtain ⟨⟨f1, n1, q1⟩, _⟩ := s2 e1 (oke _ m1)
 obtain ⟨_, ⟨f2, n2, q2⟩⟩ := s2 e2 (oke _ m2)
 exact ⟨(mul_lo_le (mem _ _ m1 n1)).trans (q1.trans p1), p2.trans (q2.trans (le_mul_hi (mem _ _ m2 n2)))⟩
theorem add_mono {a b c d : Eb} (ha : a.ok) (hb : b.ok) (hc : c.ok) (hd : d.ok) (na : a.inf ≤ 0) (nb : b.inf ≤ 0) (nc : c.inf ≤ 0) (nd : d.inf ≤ 0) (h : Eb.Le a c) (k : Eb.Le b d) : Eb.Le (a.add b) (c.add d) := by
 by_cases ia : a.inf = 0
 · by_cases ib : b.inf = 0
   · have ic : c.inf = 0 := by have : a.inf ≤ c.inf := Int.not_lt.1 fun g => h (.inl g)
                               omega
     have id : d.inf = 0 := by have : b.inf ≤ d.inf := Int.not_lt.1 fun g => k (.inl g)
                               omega
     rw [add_fin ia ib, add_fin ic id, fin_le]
     have h1 := le_fin_x ia ic h
     have h2 := le_fin_x ib id k
     grind
   · rw [add_infr ia ib]
     rcases inf_of hb ib with e | e
     · rw [e] at nb; exact absurd nb (by decide)
     · rw [e]; exact minus_le (Eb.add_ok hc hd) 0
 · rw [add_infl ia]
   rcases inf_of ha ia with e | e
   · rw [e] at na; exact absurd na (by decide)
   · rw [e]; exact minus_le (Eb.add_ok hc hd) 0
theorem add_mono' {a b c d : Eb} (ha : a.ok) (hb : b.ok) (hc : c.ok) (hd : d.ok) (na : 0 ≤ a.inf) (nb : 0 ≤ b.inf) (nc : 0 ≤ c.inf) (nd : 0 ≤ d.inf) (h : Eb.Le a c) (k : Eb.Le b d) : Eb.Le (a.add b) (c.add d) := by
 rw [← Le_neg, Eb.neg_add, Eb.neg_add]
 exact add_mono (Eb.neg_ok hc) (Eb.neg_ok hd) (Eb.neg_ok ha) (Eb.neg_ok hb) (by show -c.inf ≤ 0; omega) (by show -d.inf ≤ 0; omega) (by show -a.inf ≤ 0; omega) (by show -b.inf ≤ 0; omega) (Le_neg.2 h) (Le_neg.2 k)
def Es.fair (E : Es) : Prop := E.lo.inf ≤ 0 ∧ 0 ≤ E.hi.inf
theorem fair_of {a : Eb} {E : Es} (ha : a.inf = 0) (h : InE a E) : E.fair := by
 refine ⟨?_, ?_⟩
 · have := fun g => h.1 (.inl g); rw [ha] at this; exact Int.not_lt.1 this
 · have := fun g => h.2 (.inl g); rw [ha] at this; exact Int.not_lt.1 this
theorem InE.add {x y : Rat} {E F : Es} (hE : E.ok) (hF : F.ok) (h : InE ⟨0, x⟩ E) (k : InE ⟨0, y⟩ F) : InE ⟨0, x + y⟩ (E.add F) := by
 have fE := fair_of rfl h; have fF := fair_of rfl k
 have e : (⟨0, x⟩ : Eb).add ⟨0, y⟩ = ⟨0, x + y⟩ := add_fin rfl rfl
 rw [← e]
 exact ⟨add_mono hE.lo hF.lo (.inl rfl) (.inl rfl) fE.1 fF.1 (Int.le_refl _) (Int.le_refl _) h.1 k.1, add_mono' (.inl rfl) (.inl rfl) hE.hi hF.hi (Int.le_refl _) (Int.le_refl _) fE.2 fF.2 h.2 k.2⟩
def Es.sub (E F : Es) : Prop := Eb.Le F.lo E.lo ∧ Eb.Le E.hi F.hi
theorem Es.sub.in {E F : Es} (h : E.sub F) {a : Eb} (k : InE a E) : InE a F := ⟨h.1.trans k.1, k.2.trans h.2⟩
theorem Es.sub.neg {E F : Es} (h : E.sub F) : E.neg.sub F.neg := ⟨Le_neg.2 h.2, Le_neg.2 h.1⟩
theorem Es.sub.add {E F G H : Es} (oE : E.ok) (oF : F.ok) (oG : G.ok) (oH : H.ok) (fE : E.fair) (fF : F.fair) (fG : G.fair) (fH : H.fair) (h : E.sub F) (k : G.sub H) : (E.add G).sub (F.add H) :=
 ⟨add_mono oF.lo oH.lo oE.lo oG.lo fF.1 fH.1 fE.1 fG.1 h.1 k.1, add_mono' oE.hi oG.hi oF.hi oH.hi fE.2 fG.2 fF.2 fH.2 h.2 k.2⟩
theorem Es.sub.mul {E F G H : Es} (oE : E.ok) (oF : F.ok) (oG : G.ok) (oH : H.ok) (wE : Eb.Le E.lo E.hi) (wG : Eb.Le G.lo G.hi) (h : E.sub F) (k : G.sub H) : (E.mul G).sub (F.mul H) := by
 have m1 : InE E.lo F := ⟨h.1, wE.trans h.2⟩
 have m2 : InE E.hi F := ⟨h.1.trans wE, h.2⟩
 have n1 : InE G.lo H := ⟨k.1, wG.trans k.2⟩
 have n2 : InE G.hi H := ⟨k.1.trans wG, k.2⟩
 have all : ∀ e ∈ Es.prods E G, InE e (F.mul H) := by
  intro e he
  simp only [Es.prods, List.mem_cons, List.not_mem_nil, or_false] at he
  rcases he with rfl | rfl | rfl | rfl
  · exact InE.mul oE.lo oG.lo oF oH m1 n1
  · exact InE.mul oE.lo oG.hi oF oH m1 n2
  · exact InE.mul oE.hi oG.lo oF oH m2 n1
  · exact InE.mul oE.hi oG.hi oF oH m2 n2
 exact ⟨(all _ (Eb.pick_in (Es.prods_ne E G))).1, (all _ (Eb.pick_in (Es.prods_ne E G))).2⟩
theorem le_of_cmp {a b : Eb} : a.cmp b ≤ 0 ↔ Eb.Le a b := by
 have r := Eb.cmp_range a b
 unfold Eb.Le; rw [← Eb.cmp_1]; omega
theorem has_in {s : Sk} {q : Rat} : s.has q = true ↔ InE ⟨0, q⟩ s.set := by
 unfold Sk.has InE; rw [Bool.and_eq_true, decide_eq_true_iff, decide_eq_true_iff, le_of_cmp, le_of_cmp]; rfl
theorem below_mono {a b : Rat} (h : a ≤ b) : belowK a ≤ belowK b := by
 have b1 := below_next b
 have i1 := belowK_in a; have i2 := belowK_in b
 unfold inK at i1 i2
 have hl : Eb.Le (endE (belowK a)) ⟨0, b⟩ := Eb.Le.trans (below_first a) (fin_le.2 h)
 refine Int.not_lt.1 fun g => hl ?_
 by_cases e : belowK b + 1 = belowK a
 · rw [← e]; exact b1.2
 · exact b1.2.trans (endE_lt ⟨by omega, by omega⟩ (belowK_in a) (by omega))
theorem span_lo_mono {E F : Es} (oE : E.lo.ok) (fE : E.lo.inf ≤ 0) (h : Eb.Le F.lo E.lo) : F.span.lo ≤ E.span.lo := by
 show (if F.lo.inf = 0 then belowK F.lo.x else -(infR : Int)) ≤ (if E.lo.inf = 0 then belowK E.lo.x else -(infR : Int))
 by_cases c : E.lo.inf = 0
 · rw [if_pos c]
   by_cases d : F.lo.inf = 0
   · rw [if_pos d]; exact below_mono (le_fin_x d c h)
   · rw [if_neg d]; exact (belowK_in _).1
 · rw [if_neg c]
   rcases inf_of oE c with e | e
   · rw [e] at fE; exact absurd fE (by decide)
   · have d : F.lo.inf ≠ 0 := fun g => by rw [e] at h; exact not_fin g h
     rw [if_neg d]; exact Int.le_refl _
theorem span_sub {E F : Es} (oE : E.ok) (fE : E.fair) (h : E.sub F) : E.span.isIn F.span = true := by
 refine isIn_of (span_lo_mono oE.lo fE.1 h.1) ?_
 have := span_lo_mono (E := E.neg) (F := F.neg) (Eb.neg_ok oE.hi) (by show -E.hi.inf ≤ 0; have := fE.2; omega) (Le_neg.2 h.2)
 rw [Es.span_neg, Es.span_neg] at this
 have this : -F.span.hi ≤ -E.span.hi := this
 omega
theorem span_le_lo {E : Es} (oE : E.lo.ok) (fE : E.lo.inf ≤ 0) : Eb.Le (endE E.span.lo) E.lo := by
 show Eb.Le (endE (if E.lo.inf = 0 then belowK E.lo.x else -(infR : Int))) E.lo
 by_cases c : E.lo.inf = 0
 · rw [if_pos c]
   have := below_first E.lo.x
   rw [← fin_of c] at this; exact this
 · rw [if_neg c, endE_bot]; exact minus_le oE 0
theorem span_in {E : Es} (oE : E.ok) {q : Rat} (h : InE ⟨0, q⟩ E) : InE ⟨0, q⟩ E.span.set := by
 have f := fair_of rfl h
 refine ⟨(span_le_lo oE.lo f.1).trans h.1, ?_⟩
 have := span_le_lo (E := E.neg) (Eb.neg_ok oE.hi) (by show -E.hi.inf ≤ 0; have := f.2; omega)
 rw [Es.span_neg] at this
 have this : Eb.Le (endE (-E.span.hi)) E.hi.neg := this
 rw [endE_neg, Le_neg] at this
 exact h.2.trans this

def shF (x y : Rat) : Rat := x / (x * x + y * y)
theorem share_fin (x y : Rat) : shareV ⟨0, x⟩ ⟨0, y⟩ = ⟨0, shF x y⟩ := by
 unfold shareV shF; rw [if_neg]; rintro (h | h) <;> exact h rfl
theorem share_inf {a b : Eb} (h : a.inf ≠ 0 ∨ b.inf ≠ 0) : shareV a b = ⟨0, 0⟩ := by unfold shareV; rw [if_pos h]
theorem den_nn (x y : Rat) : 0 ≤ x * x + y * y := by have := mul_self_nonneg x; have := mul_self_nonneg y; grind
theorem shF_nn {x y : Rat} (h : 0 ≤ x) : 0 ≤ shF x y := by
 unfold shF
 by_cases c : x * x + y * y = 0
 · rw [c, Rat.div_def, Rat.inv_zero, Rat.mul_zero]; exact Rat.le_refl
 · have d := den_nn x y
   rw [Rat.div_def]; exact Rat.mul_nonneg h (Rat.le_of_lt (Rat.inv_pos.2 (by grind)))
theorem shF_np {x y : Rat} (h : x ≤ 0) : shF x y ≤ 0 := by
 have := shF_nn (x := -x) (y := y) (by grind)
 have e : shF (-x) y = -shF x y := by
  unfold shF
  have e1 : -x * -x = x * x := by grind
  rw [e1, Rat.div_def, Rat.div_def, Rat.neg_mul]
 grind
theorem frac_mono {a b c d : Rat} (hb : 0 < b) (hd : 0 < d) (h : a * d ≤ c * b) : a / b ≤ c / d := by
 refine Rat.not_lt.1 fun g => ?_
 have g := (Rat.div_lt_iff hd).1 g
 have g := Rat.mul_lt_mul_of_pos_right g hb
 have e : a / b * d * b = a * d := by
  have := Rat.div_mul_cancel (a := a) (b := b) (by grind)
  grind
 rw [e] at g
 grind
theorem pos_of {x y : Rat} (h : x ≠ 0) : 0 < x * x + y * y := by
 have a := mul_self_nonneg x; have b := mul_self_nonneg y
 have : x * x ≠ 0 := fun e => by rcases Rat.mul_eq_zero.1 e with g | g <;> exact h g
 grind
theorem shF_x {x p t : Rat} (hx : x ≠ 0) (hp : p ≠ 0) (h : (x - p) * (t * t - x * p) ≤ 0) : shF x t ≤ shF p t :=
 frac_mono (pos_of hx) (pos_of hp) (by grind)
theorem shF_y {x y t : Rat} (hx : 0 < x) (h : t * t ≤ y * y) : shF x y ≤ shF x t := by
 refine frac_mono (pos_of (by grind)) (pos_of (by grind)) ?_
 have := Rat.mul_le_mul_of_nonneg_left h (Rat.le_of_lt hx); grind
theorem shF_y' {x y t : Rat} (hx : x < 0) (h : y * y ≤ t * t) : shF x y ≤ shF x t := by
 refine frac_mono (pos_of (by grind)) (pos_of (by grind)) ?_
 have := Rat.mul_le_mul_of_nonneg_left h (show 0 ≤ -x by grind); grind
theorem mem_corner {X Y : Es} {a b : Eb} (ha : a = X.lo ∨ a = X.hi) (hb : b = Y.lo ∨ b = Y.hi) : shareV a b ∈ shareL X Y := by
 rw [shareL_mem, rowA_mem, rowA_mem]
 rcases ha with rfl | rfl <;> rcases hb with rfl | rfl <;> simp
theorem mem_zero {X Y : Es} {a : Eb} (ha : a = X.lo ∨ a = X.hi) (hz : Y.zero = true) (hs : a.sign ≠ 0) : shareV a (Eb.fin 0) ∈ shareL X Y := by
 have : shareV a (Eb.fin 0) ∈ rowZ Y a := by unfold rowZ; rw [if_pos ⟨hz, hs⟩]; simp
 rw [shareL_mem, rowA_mem, rowA_mem]
 rcases ha with rfl | rfl
 · exact .inl (.inl (.inr (.inr this)))
 · exact .inl (.inr (.inr (.inr this)))
theorem mem_peak {X Y : Es} {a b : Eb} (hb : b = Y.lo ∨ b = Y.hi) (ha : a = b ∨ a = b.neg) (h0 : b.inf = 0) (hs : b.sign ≠ 0) (h1 : Eb.Le X.lo a) (h2 : Eb.Le a X.hi) : shareV a b ∈ shareL X Y := by
 have : shareV a b ∈ colB X b a := by unfold colB; rw [if_pos ⟨h0, hs, le_of_cmp.2 h1, le_of_cmp.2 h2⟩]; simp
 rw [shareL_mem, rowB_mem, rowB_mem]
 rcases hb with rfl | rfl <;> rcases ha with rfl | rfl
 · exact .inr (.inl (.inl this))
 · exact .inr (.inl (.inr this))
 · exact .inr (.inr (.inl this))
 · exact .inr (.inr (.inr this))
theorem sgn_nn {a : Eb} : 0 ≤ a.sign ↔ Eb.Le (Eb.fin 0) a := by
 have r : a.sign = -1 ∨ a.sign = 0 ∨ a.sign = 1 := Eb.cmp_range _ _
 have k : a.sign = -1 ↔ Eb.LT a (Eb.fin 0) := Eb.cmp_neg1
 unfold Eb.Le; rw [← k]; omega
theorem sgn_np {a : Eb} : a.sign ≤ 0 ↔ Eb.Le a (Eb.fin 0) := by
 have r : a.sign = -1 ∨ a.sign = 0 ∨ a.sign = 1 := Eb.cmp_range _ _
 have k : a.sign = 1 ↔ Eb.LT (Eb.fin 0) a := Eb.cmp_1
 unfold Eb.Le; rw [← k]; omega
theorem zero_iff {E : Es} : E.zero = true ↔ Eb.Le E.lo (Eb.fin 0) ∧ Eb.Le (Eb.fin 0) E.hi := by
 unfold Es.zero; rw [Bool.and_eq_true, decide_eq_true_iff, decide_eq_true_iff, sgn_np, sgn_nn]
theorem le_total {a b : Eb} : Eb.Le a b ∨ Eb.Le b a := by
 by_cases c : Eb.LT b a
 · exact .inr fun g => Eb.LT.irrefl (c.trans g)
 · exact .inl c
theorem fin_mid {a : Eb} (ha : a.ok) {x y : Rat} (h1 : Eb.Le ⟨0, x⟩ a) (h2 : Eb.Le a ⟨0, y⟩) : a = ⟨0, a.x⟩ ∧ x ≤ a.x ∧ a.x ≤ y := by
 rcases three ha with e | e | e
 · rw [e] at h1 h2; exact ⟨e, fin_le.1 h1, fin_le.1 h2⟩
 · rw [e] at h2; exact absurd h2 not_plus
 · rw [e] at h1; exact absurd h1 not_minus
theorem share_up_neg {X Y : Es} (oX : X.ok) (oY : Y.ok) {x y : Rat} (hx : InE ⟨0, x⟩ X) (hy : InE ⟨0, y⟩ Y) (h0 : x ≤ 0) : ∃ e ∈ shareL X Y, Eb.Le ⟨0, shF x y⟩ e := by
 have np := shF_np (x := x) (y := y) h0
 have zero : ∀ {a b : Eb}, (a = X.lo ∨ a = X.hi) → (b = Y.lo ∨ b = Y.hi) → (a.inf ≠ 0 ∨ b.inf ≠ 0) → ∃ e ∈ shareL X Y, Eb.Le ⟨0, shF x y⟩ e := by
  intro a b ha hb hi
  refine ⟨_, mem_corner ha hb, ?_⟩
  rw [share_inf hi, fin_le]; exact np
 by_cases i1 : X.lo.inf = 0
 · by_cases i2 : X.hi.inf = 0
   · by_cases i3 : Y.lo.inf = 0
     · by_cases i4 : Y.hi.inf = 0
       · obtain ⟨p, hp⟩ : ∃ p, X.lo = ⟨0, p⟩ := ⟨_, fin_of i1⟩
         obtain ⟨q, hq⟩ : ∃ q, X.hi = ⟨0, q⟩ := ⟨_, fin_of i2⟩
         obtain ⟨c, hc⟩ : ∃ c, Y.lo = ⟨0, c⟩ := ⟨_, fin_of i3⟩
         obtain ⟨d, hd⟩ : ∃ d, Y.hi = ⟨0, d⟩ := ⟨_, fin_of i4⟩
         have x1 : p ≤ x := by have := hx.1; rw [hp] at this; exact fin_le.1 this
         have x2 : x ≤ q := by have := hx.2; rw [hq] at this; exact fin_le.1 this
         have y1 : c ≤ y := by have := hy.1; rw [hc] at this; exact fin_le.1 this
         have y2 : y ≤ d := by have := hy.2; rw [hd] at this; exact fin_le.1 this
         by_cases q0 : 0 ≤ q
         · refine ⟨_, mem_corner (.inr rfl) (.inl rfl), ?_⟩
           rw [hq, hc, share_fin, fin_le]
           exact Rat.le_trans np (shF_nn q0)
         · -- the farther end of the second set
           have far : ∃ t, (⟨0, t⟩ = Y.lo ∨ ⟨0, t⟩ = Y.hi) ∧ y * y ≤ t * t := by
            by_cases s : 0 ≤ y
            · exact ⟨d, .inr hd.symm, sq_mono s y2⟩
            · refine ⟨c, .inl hc.symm, ?_⟩
              have := sq_mono (a := -y) (b := -c) (by grind) (by grind)
              grind
           obtain ⟨t, ht, yt⟩ := far
           have xn : x < 0 := by grind
           have g1 := shF_y' xn yt
           by_cases s : t * t ≤ x * p
           · refine ⟨_, mem_corner (.inl rfl) ht, ?_⟩
             rw [hp, share_fin, fin_le]
             refine Rat.le_trans g1 (shF_x (by grind) (by grind) ?_)
             have := Rat.mul_nonneg (show 0 ≤ x - p by grind) (show 0 ≤ x * p - t * t by grind)
             grind
           · refine ⟨_, mem_corner (.inr rfl) ht, ?_⟩
             rw [hq, share_fin, fin_le]
             refine Rat.le_trans g1 (shF_x (by grind) (by grind) ?_)
             have k : x * q ≤ x * p := by
              have := Rat.mul_nonneg (show 0 ≤ -x by grind) (show 0 ≤ q - p by grind); grind
             have := Rat.mul_nonneg (show 0 ≤ q - x by grind) (show 0 ≤ t * t - x * q by grind)
             grind
       · exact zero (.inl rfl) (.inr rfl) (.inr i4)
     · exact zero (.inl rfl) (.inl rfl) (.inr i3)
   · exact zero (.inr rfl) (.inl rfl) (.inl i2)
 · exact zero (.inl rfl) (.inl rfl) (.inl i1)
theorem share_up_pos {X Y : Es} (oX : X.ok) (oY : Y.ok) {x y : Rat} (hx : InE ⟨0, x⟩ X) (hy : InE ⟨0, y⟩ Y) (h0 : 0 < x) (hz : ¬ (X.zero = true ∧ Y.zero = true)) : ∃ e ∈ shareL X Y, Eb.Le ⟨0, shF x y⟩ e := by
 have hi0 : Eb.Le (Eb.fin 0) X.hi := Eb.Le.trans (fin_le.2 (Rat.le_of_lt h0)) hx.2
 by_cases z : Y.zero = true
 · have nz : ¬ Eb.Le X.lo (Eb.fin 0) := fun g => hz ⟨zero_iff.2 ⟨g, hi0⟩, z⟩
   have lo0 : Eb.Le (Eb.fin 0) X.lo := le_total.resolve_right nz
   obtain ⟨e, a, b⟩ := fin_mid oX.lo lo0 hx.1
   have p0 : 0 < X.lo.x := by
    refine Rat.not_le.1 fun g => nz ?_
    rw [e]; exact fin_le.2 g
   have sg : X.lo.sign ≠ 0 := fun g => nz (sgn_np.1 (by omega))
   refine ⟨_, mem_zero (.inl rfl) z sg, ?_⟩
   rw [e]
   show Eb.Le _ (shareV ⟨0, X.lo.x⟩ ⟨0, 0⟩)
   rw [share_fin, fin_le]
   refine Rat.le_trans (shF_y (t := 0) h0 (by have := mul_self_nonneg y; grind)) (shF_x (by grind) (by grind) ?_)
   have k1 := Rat.mul_nonneg (show 0 ≤ x - X.lo.x by grind) (Rat.mul_nonneg (Rat.le_of_lt h0) (Rat.le_of_lt p0))
   grind
 · -- the nearer end of the second set
   have near : ∃ t, (⟨0, t⟩ = Y.lo ∨ ⟨0, t⟩ = Y.hi) ∧ t * t ≤ y * y ∧ t ≠ 0 := by
    by_cases c : Eb.Le Y.lo (Eb.fin 0)
    · have d : ¬ Eb.Le (Eb.fin 0) Y.hi := fun g => z (zero_iff.2 ⟨c, g⟩)
      have d2 : Eb.Le Y.hi (Eb.fin 0) := le_total.resolve_left d
      obtain ⟨e, a, b⟩ := fin_mid oY.hi hy.2 d2
      refine ⟨Y.hi.x, .inr e.symm, ?_, fun g => d ?_⟩
      · have := sq_mono (a := -Y.hi.x) (b := -y) (by grind) (by grind); grind
      · rw [e, g]; exact Eb.Le.refl _
    · have d2 : Eb.Le (Eb.fin 0) Y.lo := le_total.resolve_left c
      obtain ⟨e, a, b⟩ := fin_mid oY.lo d2 hy.1
      refine ⟨Y.lo.x, .inl e.symm, sq_mono a b, fun g => c ?_⟩
      rw [e, g]; exact Eb.Le.refl _
   obtain ⟨t, ht, ty, tn⟩ := near
   have g1 := shF_y h0 ty
   have sg : (⟨0, t⟩ : Eb).sign ≠ 0 := by
    rw [sgn_fin]; unfold cmpR
    by_cases c : t < 0
    · rw [if_pos c]; decide
    · rw [if_neg c, if_neg tn]; decide
   obtain ⟨m, hm, m0, mm⟩ : ∃ m : Rat, ((⟨0, m⟩ : Eb) = ⟨0, t⟩ ∨ (⟨0, m⟩ : Eb) = (⟨0, t⟩ : Eb).neg) ∧ 0 < m ∧ m * m = t * t := by
    by_cases s : 0 ≤ t
    · exact ⟨t, .inl rfl, by grind, rfl⟩
    · exact ⟨-t, .inr (by unfold Eb.neg; simp), by grind, by grind⟩
   by_cases c1 : Eb.Le X.lo ⟨0, m⟩
   · by_cases c2 : Eb.Le ⟨0, m⟩ X.hi
     · refine ⟨_, mem_peak ht hm rfl sg c1 c2, ?_⟩
       rw [share_fin, fin_le]
       refine Rat.le_trans g1 (shF_x (by grind) (by grind) ?_)
       have k := Rat.mul_nonneg (mul_self_nonneg (x - m)) (Rat.le_of_lt m0)
       rw [← mm]
       have e : (x - m) * (m * m - x * m) = -((x - m) * (x - m) * m) := by grind
       rw [e]; grind
     · have c3 : Eb.Le X.hi ⟨0, m⟩ := le_total.resolve_left c2
       obtain ⟨e, a, b⟩ := fin_mid oX.hi hx.2 c3
       refine ⟨_, mem_corner (.inr rfl) ht, ?_⟩
       rw [e, share_fin, fin_le]
       refine Rat.le_trans g1 (shF_x (by grind) (by grind) ?_)
       have k1 : x * X.hi.x ≤ m * m := by
        have := Rat.mul_le_mul_of_nonneg_left (show X.hi.x ≤ m by grind) (Rat.le_of_lt h0)
        have := Rat.mul_le_mul_of_nonneg_right (show x ≤ m by grind) (Rat.le_of_lt m0)
        grind
       have := Rat.mul_nonneg (show 0 ≤ X.hi.x - x by grind) (show 0 ≤ t * t - x * X.hi.x by grind)
       grind
   · have c3 : Eb.Le ⟨0, m⟩ X.lo := le_total.resolve_left c1
     obtain ⟨e, a, b⟩ := fin_mid oX.lo c3 hx.1
     refine ⟨_, mem_corner (.inl rfl) ht, ?_⟩
     rw [e, share_fin, fin_le]
     refine Rat.le_trans g1 (shF_x (by grind) (by grind) ?_)
     have k1 : m * m ≤ x * X.lo.x := by
      have := Rat.mul_le_mul_of_nonneg_left (show m ≤ X.lo.x by grind) (Rat.le_of_lt m0)
      have := Rat.mul_le_mul_of_nonneg_right (show m ≤ x by grind) (show 0 ≤ X.lo.x by grind)
      grind
     have := Rat.mul_nonneg (show 0 ≤ x - X.lo.x by grind) (show 0 ≤ x * X.lo.x - t * t by grind)
     grind
theorem share_up {X Y : Es} (oX : X.ok) (oY : Y.ok) {a b : Eb} (ha : a.ok) (hb : b.ok) (hx : InE a X) (hy : InE b Y) (hz : ¬ (X.zero = true ∧ Y.zero = true)) : ∃ e ∈ shareL X Y, Eb.Le (shareV a b) e := by
 have zero : ∀ {c d : Eb}, (c = X.lo ∨ c = X.hi) → (d = Y.lo ∨ d = Y.hi) → (c.inf ≠ 0 ∨ d.inf ≠ 0) → (a.inf ≠ 0 ∨ b.inf ≠ 0) → ∃ e ∈ shareL X Y, Eb.Le (shareV a b) e := by
  intro c d hc hd hi hk
  refine ⟨_, mem_corner hc hd, ?_⟩
  rw [share_inf hi, share_inf hk]; exact Eb.Le.refl _
 rcases three ha with e | e | e
 · rcases three hb with f | f | f
   · rw [e] at hx; rw [f] at hy
     rw [e, f, share_fin]
     by_cases c : a.x ≤ 0
     · exact share_up_neg oX oY hx hy c
     · exact share_up_pos oX oY hx hy (Rat.not_le.1 c) hz
   · refine zero (.inl rfl) (.inr rfl) (.inr fun g => ?_) (.inr (by rw [f]; decide))
     have := hy.2; rw [f] at this; exact not_fin2 g this
   · refine zero (.inl rfl) (.inl rfl) (.inr fun g => ?_) (.inr (by rw [f]; decide))
     have := hy.1; rw [f] at this; exact not_fin g this
 · refine zero (.inr rfl) (.inl rfl) (.inl fun g => ?_) (.inl (by rw [e]; decide))
   have := hx.2; rw [e] at this; exact not_fin2 g this
 · refine zero (.inl rfl) (.inl rfl) (.inl fun g => ?_) (.inl (by rw [e]; decide))
   have := hx.1; rw [e] at this; exact not_fin g this
theorem InE.share {X Y : Es} (oX : X.ok) (oY : Y.ok) {a b : Eb} (ha : a.ok) (hb : b.ok) (hx : InE a X) (hy : InE b Y) (hz : ¬ (X.zero = true ∧ Y.zero = true)) : InE (shareV a b) (X.share Y) := by
 refine ⟨?_, ?_⟩
 · obtain ⟨e, m, h⟩ := share_up (neg_okE oX) oY (Eb.neg_ok ha) hb hx.neg hy (by rw [Es.zero_neg]; exact hz)
   have k : Eb.Le e (X.neg.share Y).hi := Eb.pick_first (way := 1) (.inl rfl) e m
   have := h.trans k
   rw [shareV_neg_l, share_neg_l] at this
   exact Le_neg.1 this
 · obtain ⟨e, m, h⟩ := share_up oX oY ha hb hx hy hz
   exact h.trans (Eb.pick_first (way := 1) (.inl rfl) e m)

theorem abs_nn {a : Eb} (h : a.ok) : Eb.Le (Eb.fin 0) a.abs := by
 unfold Eb.abs; split
 · rename_i c
   have := Le_neg.2 (sgn_np.1 (show a.sign ≤ 0 by omega))
   rwa [show (Eb.fin 0).neg = Eb.fin 0 from Eb.zero_neg] at this
 · rename_i c; exact sgn_nn.1 (by omega)
theorem abs_of_nn {a : Eb} (h : Eb.Le (Eb.fin 0) a) : a.abs = a := by
 have := sgn_nn.2 h
 unfold Eb.abs; rw [if_neg (by omega)]
theorem abs_of_neg {a : Eb} (h : ¬ Eb.Le (Eb.fin 0) a) : a.abs = a.neg := by
 have : ¬ 0 ≤ a.sign := fun g => h (sgn_nn.1 g)
 unfold Eb.abs; rw [if_pos (by omega)]
theorem abs_of_np {a : Eb} (ha : a.ok) (h : Eb.Le a (Eb.fin 0)) : a.abs = a.neg := by
 by_cases c : Eb.Le (Eb.fin 0) a
 · have e : a = Eb.fin 0 := Eb.LT.tri ha (.inl rfl) c h
   rw [abs_of_nn c, e]; exact Eb.zero_neg.symm
 · exact abs_of_neg c
theorem size_hi_mem (E : Es) : E.size.hi = E.lo.abs ∨ E.size.hi = E.hi.abs := by
 have eH : E.size.hi = Eb.pick 1 [E.lo.abs, E.hi.abs] := by unfold Es.size; split <;> rfl
 have m := Eb.pick_in (way := 1) (es := [E.lo.abs, E.hi.abs]) (by simp)
 rw [← eH] at m; simpa using m
theorem size_hi_le (E : Es) {e : Eb} (h : e = E.lo.abs ∨ e = E.hi.abs) : Eb.Le e E.size.hi := by
 have eH : E.size.hi = Eb.pick 1 [E.lo.abs, E.hi.abs] := by unfold Es.size; split <;> rfl
 rw [eH]; exact Eb.pick_first (way := 1) (.inl rfl) e (by rcases h with rfl | rfl <;> simp)
theorem size_lo_mem (E : Es) : (E.zero = true ∧ E.size.lo = Eb.fin 0) ∨ (E.zero ≠ true ∧ (E.size.lo = E.lo.abs ∨ E.size.lo = E.hi.abs) ∧ ∀ e, e = E.lo.abs ∨ e = E.hi.abs → Eb.Le E.size.lo e) := by
 by_cases c : E.zero = true
 · exact .inl ⟨c, by unfold Es.size; rw [if_pos c]⟩
 · have eL : E.size.lo = Eb.pick (-1) [E.lo.abs, E.hi.abs] := by unfold Es.size; rw [if_neg c]
   refine .inr ⟨c, ?_, fun e h => ?_⟩
   · have m := Eb.pick_in (way := -1) (es := [E.lo.abs, E.hi.abs]) (by simp)
     rw [← eL] at m; simpa using m
   · rw [eL]; exact Eb.pick_first (way := -1) (.inr rfl) e (by rcases h with rfl | rfl <;> simp)
theorem size_okE {E : Es} (h : E.ok) : E.size.ok := by
 have a1 := abs_ok h.lo; have a2 := abs_ok h.hi
 constructor
 · rcases size_lo_mem E with ⟨_, e⟩ | ⟨_, e | e, _⟩
   · rw [e]; exact .inl rfl
   · rw [e]; exact a1
   · rw [e]; exact a2
 · rcases size_hi_mem E with e | e <;> rw [e] <;> assumption
theorem InE.abs {a : Eb} {E : Es} (ha : a.ok) (oE : E.ok) (h : InE a E) : InE a.abs E.size := by
 constructor
 · rcases size_lo_mem E with ⟨_, e⟩ | ⟨z, _, le⟩
   · rw [e]; exact abs_nn ha
   · by_cases c : Eb.Le E.lo (Eb.fin 0)
     · have d : ¬ Eb.Le (Eb.fin 0) E.hi := fun g => z (zero_iff.2 ⟨c, g⟩)
       have d2 : Eb.Le E.hi (Eb.fin 0) := le_total.resolve_left d
       refine (le _ (.inr rfl)).trans ?_
       rw [abs_of_np oE.hi d2, abs_of_np ha (h.2.trans d2), Le_neg]; exact h.2
     · have d2 : Eb.Le (Eb.fin 0) E.lo := le_total.resolve_left c
       refine (le _ (.inl rfl)).trans ?_
       rw [abs_of_nn d2, abs_of_nn (d2.trans h.1)]; exact h.1
 · by_cases c : Eb.Le (Eb.fin 0) a
   · refine Eb.Le.trans ?_ (size_hi_le E (.inr rfl))
     rw [abs_of_nn c, abs_of_nn (c.trans h.2)]; exact h.2
   · have c2 : Eb.Le a (Eb.fin 0) := le_total.resolve_left c
     refine Eb.Le.trans ?_ (size_hi_le E (.inl rfl))
     rw [abs_of_np ha c2, abs_of_np oE.lo (h.1.trans c2), Le_neg]; exact h.1
theorem size_nn {E : Es} (oE : E.ok) : Eb.Le (Eb.fin 0) E.size.lo ∧ Eb.Le (Eb.fin 0) E.size.hi := by
 have a1 := abs_nn oE.lo; have a2 := abs_nn oE.hi
 constructor
 · rcases size_lo_mem E with ⟨_, e⟩ | ⟨_, e | e, _⟩
   · rw [e]; exact Eb.Le.refl _
   · rw [e]; exact a1
   · rw [e]; exact a2
 · rcases size_hi_mem E with e | e <;> rw [e] <;> assumption
theorem Es.sub.size {E F : Es} (oE : E.ok) (oF : F.ok) (w : Eb.Le E.lo E.hi) (h : E.sub F) : E.size.sub F.size := by
 have m1 : InE E.lo F := ⟨h.1, w.trans h.2⟩
 have m2 : InE E.hi F := ⟨h.1.trans w, h.2⟩
 have n1 := m1.abs oE.lo oF; have n2 := m2.abs oE.hi oF
 constructor
 · rcases size_lo_mem E with ⟨z, e⟩ | ⟨_, e | e, _⟩
   · obtain ⟨z1, z2⟩ := zero_iff.1 z
     have zF : F.zero = true := zero_iff.2 ⟨h.1.trans z1, z2.trans h.2⟩
     rcases size_lo_mem F with ⟨_, f⟩ | ⟨f, _⟩
     · rw [e, f]; exact Eb.Le.refl _
     · exact absurd zF f
   · rw [e]; exact n1.1
   · rw [e]; exact n2.1
 · rcases size_hi_mem E with e | e <;> rw [e]
   · exact n1.2
   · exact n2.2
theorem sq_le {a b : Eb} (ha : a.ok) (hb : b.ok) (h0 : Eb.Le (Eb.fin 0) a) (h : Eb.Le a b) : Eb.Le (a.mul a) (b.mul b) := by
 have p := mul_mono ha ha hb (sgn_nn.2 h0) h
 have q := mul_mono hb ha hb (sgn_nn.2 (h0.trans h)) h
 rw [Eb.mul_comm b a] at q
 exact p.trans q
theorem square_okE {E : Es} : E.square.ok := ⟨Eb.mul_ok _ _, Eb.mul_ok _ _⟩
theorem InE.square {x : Rat} {E : Es} (oE : E.ok) (h : InE ⟨0, x⟩ E) : InE ⟨0, x * x⟩ E.square := by
 have s := size_okE oE
 have n := h.abs (.inl rfl) oE
 have nn := size_nn oE
 have e : (⟨0, x⟩ : Eb).abs.mul (⟨0, x⟩ : Eb).abs = ⟨0, x * x⟩ := by rw [abs_sq, fin_mul]
 have oa : (⟨0, x⟩ : Eb).abs.ok := abs_ok (.inl rfl)
 rw [← e]
 exact ⟨sq_le s.lo oa nn.1 n.1, sq_le oa s.hi (abs_nn (.inl rfl)) n.2⟩
theorem Es.sub.square {E F : Es} (oE : E.ok) (oF : F.ok) (w : Eb.Le E.lo E.hi) (h : E.sub F) : E.square.sub F.square := by
 have s := h.size oE oF w
 have a := size_okE oE; have b := size_okE oF
 exact ⟨sq_le b.lo a.lo (size_nn oF).1 s.1, sq_le a.hi b.hi (size_nn oE).2 s.2⟩
theorem share_okE (X Y : Es) : (X.share Y).ok := by
 have ne : shareL X Y ≠ [] := fun e => by
  have := mem_corner (X := X) (Y := Y) (.inl rfl) (.inl rfl); rw [e] at this; simp at this
 exact ⟨shareL_ok X Y _ (Eb.pick_in ne), shareL_ok X Y _ (Eb.pick_in ne)⟩
theorem shareL_in {X Y : Es} (oX : X.ok) (oY : Y.ok) (wX : Eb.Le X.lo X.hi) (wY : Eb.Le Y.lo Y.hi) {e : Eb} (h : e ∈ shareL X Y) : ∃ a b : Eb, a.ok ∧ b.ok ∧ InE a X ∧ InE b Y ∧ e = shareV a b := by
 have x1 : InE X.lo X := ⟨Eb.Le.refl _, wX⟩
 have x2 : InE X.hi X := ⟨wX, Eb.Le.refl _⟩
 have y1 : InE Y.lo Y := ⟨Eb.Le.refl _, wY⟩
 have y2 : InE Y.hi Y := ⟨wY, Eb.Le.refl _⟩
 have A : ∀ {a}, a.ok → InE a X → e ∈ rowA Y a → ∃ a b : Eb, a.ok ∧ b.ok ∧ InE a X ∧ InE b Y ∧ e = shareV a b := by
  intro a oa ha he
  rcases (rowA_mem Y a e).1 he with g | g | g
  · exact ⟨a, Y.lo, oa, oY.lo, ha, y1, g⟩
  · exact ⟨a, Y.hi, oa, oY.hi, ha, y2, g⟩
  · unfold rowZ at g
    by_cases c : Y.zero = true ∧ a.sign ≠ 0
    · rw [if_pos c] at g
      exact ⟨a, Eb.fin 0, oa, .inl rfl, ha, zero_iff.1 c.1, by simpa using g⟩
    · rw [if_neg c] at g; simp at g
 have B : ∀ {b}, b.ok → InE b Y → e ∈ rowB X b → ∃ a b : Eb, a.ok ∧ b.ok ∧ InE a X ∧ InE b Y ∧ e = shareV a b := by
  intro b ob hb he
  have col : ∀ {a}, a.ok → e ∈ colB X b a → ∃ a b : Eb, a.ok ∧ b.ok ∧ InE a X ∧ InE b Y ∧ e = shareV a b := by
   intro a oa g
   unfold colB at g
   by_cases c : b.inf = 0 ∧ b.sign ≠ 0 ∧ X.lo.cmp a ≤ 0 ∧ a.cmp X.hi ≤ 0
   · rw [if_pos c] at g
     exact ⟨a, b, oa, ob, ⟨le_of_cmp.1 c.2.2.1, le_of_cmp.1 c.2.2.2⟩, hb, by simpa using g⟩
   · rw [if_neg c] at g; simp at g
  rcases (rowB_mem X b e).1 he with g | g
  · exact col ob g
  · exact col (Eb.neg_ok ob) g
 rcases (shareL_mem X Y e).1 h with (g | g) | (g | g)
 · exact A oX.lo x1 g
 · exact A oX.hi x2 g
 · exact B oY.lo y1 g
 · exact B oY.hi y2 g
theorem Es.sub.share {X Y A B : Es} (oX : X.ok) (oY : Y.ok) (oA : A.ok) (oB : B.ok) (wX : Eb.Le X.lo X.hi) (wY : Eb.Le Y.lo Y.hi) (h : X.sub A) (k : Y.sub B) (hz : ¬ (A.zero = true ∧ B.zero = true)) : (X.share Y).sub (A.share B) := by
 have ne : shareL X Y ≠ [] := fun e => by
  have := mem_corner (X := X) (Y := Y) (.inl rfl) (.inl rfl); rw [e] at this; simp at this
 have all : ∀ e ∈ shareL X Y, InE e (A.share B) := by
  intro e he
  obtain ⟨a, b, oa, ob, ha, hb, rfl⟩ := shareL_in oX oY wX wY he
  exact InE.share oA oB oa ob (h.in ha) (k.in hb) hz
 exact ⟨(all _ (Eb.pick_in ne)).1, (all _ (Eb.pick_in ne)).2⟩
-- boxes
theorem bk_has {b : Bk} {z : Cq} : b.has z = true ↔ InE ⟨0, z.re⟩ b.re.set ∧ InE ⟨0, z.im⟩ b.im.set := by
 unfold Bk.has; rw [Bool.and_eq_true, has_in, has_in]
theorem bk_of {E F : Es} (oE : E.ok) (oF : F.ok) {z : Cq} (h : InE ⟨0, z.re⟩ E) (k : InE ⟨0, z.im⟩ F) : Bk.has ⟨E.span, F.span⟩ z = true := bk_has.2 ⟨span_in oE h, span_in oF k⟩
theorem set_neg_in {s : Sk} {q : Rat} (h : InE ⟨0, q⟩ s.set) : InE ⟨0, -q⟩ s.set.neg := by
 have := h.neg; rwa [fin_neg] at this
theorem has_neg {b : Bk} {z : Cq} (h : b.has z = true) : b.neg.has (-z) = true := by
 obtain ⟨h1, h2⟩ := bk_has.1 h
 refine bk_has.2 ⟨?_, ?_⟩
 · show InE ⟨0, -z.re⟩ b.re.neg.set; rw [Sk.set_neg]; exact set_neg_in h1
 · show InE ⟨0, -z.im⟩ b.im.neg.set; rw [Sk.set_neg]; exact set_neg_in h2
theorem sub_add (z w : Cq) : z - w = z + -w := Cq.ext' (by rw [Cq.sub_re, Cq.add_re, Cq.neg_re]; grind) (by rw [Cq.sub_im, Cq.add_im, Cq.neg_im]; grind)
theorem InE.mulQ {x y : Rat} {s t : Es} (os : s.ok) (ot : t.ok) (h : InE ⟨0, x⟩ s) (k : InE ⟨0, y⟩ t) : InE ⟨0, x * y⟩ (s.mul t) := by
 have := InE.mul (.inl rfl) (.inl rfl) os ot h k; rwa [fin_mul] at this
theorem clear_zero {b : Bk} (h : b.clear = true) : ¬ (b.re.set.zero = true ∧ b.im.set.zero = true) := by
 rintro ⟨h1, h2⟩
 have : b.has Cq.zero = true := bk_has.2 ⟨zero_iff.1 h1, zero_iff.1 h2⟩
 unfold Bk.clear at h; rw [this] at h; exact absurd h (by decide)
def Cq.inv (w : Cq) : Cq := ⟨w.re / w.norm, -w.im / w.norm⟩
theorem has_inv {b : Bk} {z : Cq} (h : b.has z = true) (hc : b.clear = true) : b.inv.has z.inv = true := by
 obtain ⟨h1, h2⟩ := bk_has.1 h
 have nz := clear_zero hc
 have a := InE.share (set_ok _) (set_ok _) (.inl rfl) (.inl rfl) h1 h2 nz
 have c := InE.share (set_ok _) (set_ok _) (.inl rfl) (.inl rfl) h2 h1 (fun g => nz ⟨g.2, g.1⟩)
 rw [share_fin] at a c
 unfold Bk.inv; rw [if_pos hc]
 refine bk_of (share_okE _ _) (neg_okE (share_okE _ _)) a ?_
 have := c.neg
 rw [fin_neg] at this
 have e : z.inv.im = -shF z.im z.re := by
  show -z.im / (z.re * z.re + z.im * z.im) = -(z.im / (z.im * z.im + z.re * z.re))
  have : z.im * z.im + z.re * z.re = z.re * z.re + z.im * z.im := by grind
  rw [this, Rat.div_def, Rat.div_def, Rat.neg_mul]
 rw [e]; exact this

structure Grow (b' b : Bk) (z : Cq) : Prop where
 ok' : b'.ok
 ok : b.ok
 re : b'.re.set.sub b.re.set
 im : b'.im.set.sub b.im.set
 has : b'.has z = true
theorem set_sub {s t : Sk} (hs : s.ok) (ht : t.ok) (h : s.isIn t = true) : s.set.sub t.set := by
 unfold Sk.isIn at h; rw [Bool.and_eq_true, decide_eq_true_iff, decide_eq_true_iff] at h
 exact ⟨endE_mono ht.lo hs.lo h.1, endE_mono hs.hi ht.hi h.2⟩
theorem sub_isIn {s t : Sk} (hs : s.ok) (ht : t.ok) (h : s.set.sub t.set) : s.isIn t = true :=
 isIn_of (endE_le ht.lo hs.lo h.1) (endE_le hs.hi ht.hi h.2)
theorem Grow.isIn {b' b : Bk} {z : Cq} (h : Grow b' b z) : b'.isIn b = true := by
 unfold Bk.isIn; rw [Bool.and_eq_true]; exact ⟨sub_isIn h.ok'.re h.ok.re h.re, sub_isIn h.ok'.im h.ok.im h.im⟩
theorem Grow.of {b' b : Bk} {z : Cq} (h' : b'.ok) (h : b.ok) (hi : b'.isIn b = true) (hz : b'.has z = true) : Grow b' b z := by
 unfold Bk.isIn at hi; rw [Bool.and_eq_true] at hi
 exact ⟨h', h, set_sub h'.re h.re hi.1, set_sub h'.im h.im hi.2, hz⟩
theorem Grow.has2 {b' b : Bk} {z : Cq} (h : Grow b' b z) : b.has z = true := by
 obtain ⟨h1, h2⟩ := bk_has.1 h.has
 exact bk_has.2 ⟨h.re.in h1, h.im.in h2⟩
theorem Grow.spans {E F E' F' : Es} {z : Cq} (oE : E'.ok) (oF : F'.ok) (h1 : E'.sub E) (h2 : F'.sub F) (k1 : InE ⟨0, z.re⟩ E') (k2 : InE ⟨0, z.im⟩ F') : Grow ⟨E'.span, F'.span⟩ ⟨E.span, F.span⟩ z := by
 refine Grow.of ⟨Es.span_ok _, Es.span_ok _⟩ ⟨Es.span_ok _, Es.span_ok _⟩ ?_ (bk_of oE oF k1 k2)
 unfold Bk.isIn; rw [Bool.and_eq_true]
 exact ⟨span_sub oE (fair_of rfl k1) h1, span_sub oF (fair_of rfl k2) h2⟩
theorem way_of {a : Eb} {E : Es} (h : InE a E) : Eb.Le E.lo E.hi := h.1.trans h.2
theorem Grow.neg {b' b : Bk} {z : Cq} (h : Grow b' b z) : Grow b'.neg b.neg (-z) := by
 refine ⟨Bk.neg_ok h.ok', Bk.neg_ok h.ok, ?_, ?_, has_neg h.has⟩
 · show b'.re.neg.set.sub b.re.neg.set; rw [Sk.set_neg, Sk.set_neg]; exact h.re.neg
 · show b'.im.neg.set.sub b.im.neg.set; rw [Sk.set_neg, Sk.set_neg]; exact h.im.neg
theorem addIn {s' s t' t : Sk} {x y : Rat} (h : s'.set.sub s.set) (k : t'.set.sub t.set) (hx : InE ⟨0, x⟩ s'.set) (hy : InE ⟨0, y⟩ t'.set) : (s'.set.add t'.set).sub (s.set.add t.set) :=
 Es.sub.add (set_ok _) (set_ok _) (set_ok _) (set_ok _) (fair_of rfl hx) (fair_of rfl (h.in hx)) (fair_of rfl hy) (fair_of rfl (k.in hy)) h k
theorem Grow.add {b' b c' c : Bk} {z w : Cq} (h : Grow b' b z) (k : Grow c' c w) : Grow (b'.add c') (b.add c) (z + w) := by
 obtain ⟨h1, h2⟩ := bk_has.1 h.has
 obtain ⟨k1, k2⟩ := bk_has.1 k.has
 exact Grow.spans (add_okE (set_ok _) (set_ok _)) (add_okE (set_ok _) (set_ok _)) (addIn h.re k.re h1 k1) (addIn h.im k.im h2 k2) (InE.add (set_ok _) (set_ok _) h1 k1) (InE.add (set_ok _) (set_ok _) h2 k2)
theorem Grow.sub {b' b c' c : Bk} {z w : Cq} (h : Grow b' b z) (k : Grow c' c w) : Grow (b'.sub c') (b.sub c) (z - w) := by
 rw [Bk.sub_eq, Bk.sub_eq, sub_add]; exact h.add k.neg
theorem Grow.mul {b' b c' c : Bk} {z w : Cq} (h : Grow b' b z) (k : Grow c' c w) : Grow (b'.mul c') (b.mul c) (z * w) := by
 obtain ⟨h1, h2⟩ := bk_has.1 h.has
 obtain ⟨k1, k2⟩ := bk_has.1 k.has
 have o := fun (s t : Sk) => mul_okE s.set t.set
 have S : ∀ {s' s t' t : Sk} {x y : Rat}, s'.set.sub s.set → t'.set.sub t.set → InE ⟨0, x⟩ s'.set → InE ⟨0, y⟩ t'.set → (s'.set.mul t'.set).sub (s.set.mul t.set) ∧ InE ⟨0, x * y⟩ (s'.set.mul t'.set) ∧ InE ⟨0, x * y⟩ (s.set.mul t.set) := by
  intro s' s t' t x y hs ht hx hy
  exact ⟨Es.sub.mul (set_ok _) (set_ok _) (set_ok _) (set_ok _) (way_of hx) (way_of hy) hs ht, InE.mulQ (set_ok _) (set_ok _) hx hy, InE.mulQ (set_ok _) (set_ok _) (hs.in hx) (ht.in hy)⟩
 obtain ⟨a1, a2, a3⟩ := S h.re k.re h1 k1
 obtain ⟨b1, b2, b3⟩ := S h.im k.im h2 k2
 obtain ⟨c1, c2, c3⟩ := S h.re k.im h1 k2
 obtain ⟨d1, d2, d3⟩ := S h.im k.re h2 k1
 have n2 := b2.neg; have n3 := b3.neg
 rw [fin_neg] at n2 n3
 have e : (z * w).re = z.re * w.re + -(z.im * w.im) := by rw [Cq.mul_re]; grind
 refine Grow.spans (add_okE (o _ _) (neg_okE (o _ _))) (add_okE (o _ _) (o _ _)) ?_ ?_ ?_ (InE.add (o _ _) (o _ _) c2 d2)
 · exact Es.sub.add (o _ _) (o _ _) (neg_okE (o _ _)) (neg_okE (o _ _)) (fair_of rfl a2) (fair_of rfl a3) (fair_of rfl n2) (fair_of rfl n3) a1 b1.neg
 · exact Es.sub.add (o _ _) (o _ _) (o _ _) (o _ _) (fair_of rfl c2) (fair_of rfl c3) (fair_of rfl d2) (fair_of rfl d3) c1 d1
 · rw [e]; exact InE.add (o _ _) (neg_okE (o _ _)) a2 n2
theorem Grow.clear {b' b : Bk} {z : Cq} (h : Grow b' b z) (hc : b.clear = true) : b'.clear = true := by
 unfold Bk.clear at *
 cases e : b'.has Cq.zero
 · rfl
 · have := (Grow.mk h.ok' h.ok h.re h.im e).has2
   rw [this] at hc; exact absurd hc (by decide)
theorem Grow.inv {b' b : Bk} {z : Cq} (h : Grow b' b z) (hc : b.clear = true) : Grow b'.inv b.inv z.inv := by
 have hc' := h.clear hc
 obtain ⟨h1, h2⟩ := bk_has.1 h.has
 have nz := clear_zero hc
 have g := Es.sub.share (set_ok _) (set_ok _) (set_ok _) (set_ok _) (way_of h1) (way_of h2) h.re h.im nz
 have k := Es.sub.share (set_ok _) (set_ok _) (set_ok _) (set_ok _) (way_of h2) (way_of h1) h.im h.re (fun q => nz ⟨q.2, q.1⟩)
 have v := bk_has.1 (has_inv h.has hc')
 have nz' := clear_zero hc'
 have p1 := InE.share (set_ok _) (set_ok _) (.inl rfl) (.inl rfl) h1 h2 nz'
 have p2 := (InE.share (set_ok _) (set_ok _) (.inl rfl) (.inl rfl) h2 h1 (fun q => nz' ⟨q.2, q.1⟩)).neg
 rw [share_fin] at p1 p2
 rw [fin_neg] at p2
 refine Grow.of (Bk.inv_ok _) (Bk.inv_ok _) ?_ (has_inv h.has hc')
 unfold Bk.inv; rw [if_pos hc, if_pos hc']
 unfold Bk.isIn; rw [Bool.and_eq_true]
 exact ⟨span_sub (share_okE _ _) (fair_of rfl p1) g, span_sub (neg_okE (share_okE _ _)) (fair_of rfl p2) k.neg⟩
-- norms
def normE (b : Bk) : Es := b.re.set.square.add b.im.set.square
theorem norm_in {b : Bk} {z : Cq} (h : b.has z = true) : InE ⟨0, z.norm⟩ (normE b) := by
 obtain ⟨h1, h2⟩ := bk_has.1 h
 exact InE.add square_okE square_okE (h1.square (set_ok _)) (h2.square (set_ok _))
theorem Grow.norm {b' b : Bk} {z : Cq} (h : Grow b' b z) : (normE b').sub (normE b) := by
 obtain ⟨h1, h2⟩ := bk_has.1 h.has
 exact Es.sub.add square_okE square_okE square_okE square_okE (fair_of rfl (h1.square (set_ok _))) (fair_of rfl ((h.re.in h1).square (set_ok _))) (fair_of rfl (h2.square (set_ok _))) (fair_of rfl ((h.im.in h2).square (set_ok _)))
  (h.re.square (set_ok _) (set_ok _) (way_of h1)) (h.im.square (set_ok _) (set_ok _) (way_of h2))
theorem norm_okE (b : Bk) : (normE b).ok := add_okE square_okE square_okE
theorem square_lo {s : Sk} {x : Rat} (h : InE ⟨0, x⟩ s.set) : s.set.square.lo.inf = 0 ∧ 0 ≤ s.set.square.lo.x := by
 have a := h.square (set_ok s)
 have nn := (size_nn (set_ok s)).1
 have z : Eb.Le (Eb.fin 0) s.set.square.lo := by
  have := sq_le (a := Eb.fin 0) (b := s.set.size.lo) (.inl rfl) (size_okE (set_ok s)).lo (Eb.Le.refl _) nn
  have e : (Eb.fin 0).mul (Eb.fin 0) = Eb.fin 0 := by show (⟨0, 0⟩ : Eb).mul ⟨0, 0⟩ = ⟨0, 0⟩; rw [fin_mul]; rw [Rat.zero_mul]
  rw [e] at this; exact this
 obtain ⟨e, p, _⟩ := fin_mid square_okE.lo z a.1
 exact ⟨by rw [e], p⟩
theorem norm_lo {b : Bk} {z : Cq} (h : b.has z = true) : 0 ≤ (normE b).span.lo := by
 obtain ⟨h1, h2⟩ := bk_has.1 h
 obtain ⟨a, a0⟩ := square_lo h1
 obtain ⟨c, c0⟩ := square_lo h2
 have e : (normE b).lo = ⟨0, b.re.set.square.lo.x + b.im.set.square.lo.x⟩ := add_fin a c
 show 0 ≤ (if (normE b).lo.inf = 0 then belowK (normE b).lo.x else -(infR : Int))
 rw [e, if_pos rfl]
 exact below_nonneg (by show 0 ≤ b.re.set.square.lo.x + b.im.set.square.lo.x; grind)
-- roots
theorem nn_sq {a b : Eb} (h0 : Eb.Le (Eb.fin 0) a) (ha : a.ok) (h : Eb.Le a b) (hb : b.inf = 0) : a.inf = 0 ∧ a.x * a.x ≤ b.x * b.x := by
 rw [fin_of hb] at h
 obtain ⟨e, p, q⟩ := fin_mid ha h0 h
 exact ⟨by rw [e], sq_mono p q⟩
theorem end_nn {k : Int} (hk : inK k) (h : 0 ≤ k) : Eb.Le (Eb.fin 0) (endE k) := by rw [← endE_zero]; exact endE_mono zero_in hk h
theorem end_neg_nn {k : Int} (hk : inK k) (h : k ≤ 0) : Eb.Le (Eb.fin 0) (endE k).neg := by rw [← endE_neg]; exact end_nn (inK_neg hk) (by omega)
theorem SqrtS.grow {s' s t' t : Sk} (hs' : s'.ok) (hs : s.ok) (h : s'.set.sub s.set) (h0 : 0 ≤ s.lo) (p : SqrtS s' t') (q : SqrtS s t) : t'.isIn t = true := by
 have h0' : 0 ≤ s'.lo := Int.le_trans h0 (endE_le hs.lo hs'.lo h.1)
 unfold SqrtS at p q
 rw [if_neg (by omega)] at p q
 obtain ⟨k', l', rfl, p1, p2⟩ := p
 obtain ⟨k, l, rfl, q1, q2⟩ := q
 have z : (Eb.fin 0).inf = 0 → (Eb.fin 0).inf = 0 ∧ (Eb.fin 0).x * (Eb.fin 0).x ≤ (Eb.fin 0).x * (Eb.fin 0).x := fun _ => ⟨rfl, Rat.le_refl⟩
 have a := q1.mono p1 h.1 z (fun g => g)
 have c := p2.mono q2 h.2 z (fun g => g)
 refine isIn_of ?_ ?_
 · show (k : Int) ≤ k'; omega
 · show (l' : Int) ≤ l; omega
theorem SqrtB.grow {b' b t' t : Bk} {z : Cq} (h : Grow b' b z) (p : SqrtB b' t') (q : SqrtB b t) : t'.isIn t = true := by
 obtain ⟨h1, h2⟩ := bk_has.1 h.has
 have sz := h.im.size (set_ok _) (set_ok _) (way_of h2)
 have n' := size_nn (set_ok b'.im); have n := size_nn (set_ok b.im)
 have s' := size_okE (set_ok b'.im); have s := size_okE (set_ok b.im)
 have lo := endE_le h.ok.im.lo h.ok'.im.lo h.im.1
 have hi := endE_le h.ok'.im.hi h.ok.im.hi h.im.2
 obtain ⟨k1', a1', r1'⟩ := p.r1; obtain ⟨k1, a1, r1⟩ := q.r1
 obtain ⟨k2', a2', r2'⟩ := p.r2; obtain ⟨k2, a2, r2⟩ := q.r2
 obtain ⟨k3', b3', c3'⟩ := p.i1; obtain ⟨k3, b3, c3⟩ := q.i1
 obtain ⟨k4', b4', c4'⟩ := p.i2; obtain ⟨k4, b4, c4⟩ := q.i2
 have m1 := r1.mono r1' h.re.1 (fun g => nn_sq n.1 s.lo sz.1 g) (fun g => g)
 have m2 := r2'.mono r2 h.re.2 (fun g => nn_sq n'.2 s'.hi sz.2 g) (fun g => g)
 unfold Bk.isIn; rw [Bool.and_eq_true]
 refine ⟨isIn_of (by rw [a1, a1']; omega) (by rw [a2, a2']; omega), isIn_of ?_ ?_⟩
 · by_cases c : b.im.lo < 0
   · rw [(b3 c).1]
     by_cases d : b'.im.lo < 0
     · rw [(b3' d).1]
       have := (b3' d).2.mono (b3 c).2 (Le_neg.2 h.re.1) (fun g => nn_sq (end_neg_nn h.ok'.im.lo (by omega)) (Eb.neg_ok (endE_ok _)) (Le_neg.2 h.im.1) g) (fun g => g)
       omega
     · rw [(c3' d).1]; omega
   · have d : ¬ b'.im.lo < 0 := by omega
     rw [(c3 c).1, (c3' d).1]
     have := (c3 c).2.mono (c3' d).2 (Le_neg.2 h.re.2) (fun g => nn_sq (end_nn h.ok.im.lo (by omega)) (endE_ok _) h.im.1 g) (fun g => g)
     omega
 · by_cases c : b.im.hi < 0
   · have d : b'.im.hi < 0 := by omega
     rw [(b4 c).1, (b4' d).1]
     have := (b4 c).2.mono (b4' d).2 (Le_neg.2 h.re.2) (fun g => nn_sq (end_neg_nn h.ok.im.hi (by omega)) (Eb.neg_ok (endE_ok _)) (Le_neg.2 h.im.2) g) (fun g => g)
     omega
   · rw [(c4 c).1]
     by_cases d : b'.im.hi < 0
     · rw [(b4' d).1]; omega
     · rw [(c4' d).1]
       have := (c4' d).2.mono (c4 c).2 (Le_neg.2 h.re.1) (fun g => nn_sq (end_nn h.ok'.im.hi (by omega)) (endE_ok _) h.im.2 g) (fun g => g)
       omega
end Go.Vc
