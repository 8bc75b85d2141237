/- Lists whose elements are so many cells each, as they lie in known memory. No program in sight. -/
import Derived.Test.YtnbjnokgmeamdaaVNum
namespace Go.Vc
open Go

theorem addr_add2 (a : Addr) (m n : Nat) : (a.add m).add n = a.add (m + n) := by
  by_cases h1 : m = 0 <;> by_cases h2 : n = 0 <;> simp [Addr.add, h1, h2, Nat.add_assoc]
theorem load_block {V : View} {b j : Nat} {cs : Array Value} (h : V b = some cs) : V.load ((some (Addr.mk b 0 none)).map (·.add j)) = cs[j]? := by
  by_cases h1 : j = 0 <;> simp [View.load, Addr.add, h1, h]

/-- The element at a place, and the given one where there is none. -/
def Cells {α : Type} (sz : Nat) (P : View → List Value → α → Prop) (V : View) : List Value → List α → Prop
  | o, [] => o = []
  | o, z :: zs => ∃ x o', o = x ++ o' ∧ x.length = sz ∧ P V x z ∧ Cells sz P V o' zs

section
variable {α : Type} {sz : Nat} {P : View → List Value → α → Prop} {V V' : View}

theorem Cells.length : ∀ {zs : List α} {o : List Value}, Cells sz P V o zs → o.length = zs.length * sz
  | [], _, h => by rw [show _ = [] from h]; simp
  | z :: zs, _, ⟨x, o', e, hx, _, h⟩ => by rw [e, List.length_append, hx, h.length, List.length_cons, Nat.add_mul]; omega
theorem Cells.imp {P' : View → List Value → α → Prop} (hP : ∀ x z, P V x z → P' V' x z) : ∀ {zs : List α} {o : List Value}, Cells sz P V o zs → Cells sz P' V' o zs
  | [], _, h => h
  | _ :: _, _, ⟨x, o', e, hx, p, h⟩ => ⟨x, o', e, hx, hP _ _ p, h.imp hP⟩
theorem Cells.append : ∀ {zs zs' : List α} {o o' : List Value}, Cells sz P V o zs → Cells sz P V o' zs' → Cells sz P V (o ++ o') (zs ++ zs')
  | [], _, _, _, h, h' => by rw [show _ = [] from h]; exact h'
  | _ :: _, _, _, _, ⟨x, o1, e, hx, p, h⟩, h' => ⟨x, o1 ++ _, by rw [e, List.append_assoc], hx, p, h.append h'⟩
theorem Cells.one {x : List Value} {z : α} (hx : x.length = sz) (p : P V x z) : Cells sz P V x [z] := ⟨x, [], by simp, hx, p, rfl⟩
theorem Cells.nil : Cells sz P V [] ([] : List α) := rfl
theorem Cells.replicate {x : List Value} {z : α} (hx : x.length = sz) (p : P V x z) : ∀ n, Cells sz P V (List.replicate n x).flatten (List.replicate n z)
  | 0 => rfl
  | n + 1 => ⟨x, (List.replicate n x).flatten, by simp [List.replicate_succ], hx, p, Cells.replicate hx p n⟩
theorem Cells.get : ∀ {zs : List α} {o : List Value}, Cells sz P V o zs → ∀ {i : Nat} {z : α}, zs[i]? = some z →
    ∃ x, P V x z ∧ x.length = sz ∧ ∀ j v, x[j]? = some v → o[i * sz + j]? = some v
  | [], _, _, i, z, hi => by simp at hi
  | z0 :: zs, _, ⟨x, o', e, hx, p, h⟩, 0, z, hi => by
    simp at hi; subst hi
    refine ⟨x, p, hx, fun j v hj => ?_⟩
    have : j < x.length := by
      rcases Nat.lt_or_ge j x.length with h | h
      · exact h
      · rw [List.getElem?_eq_none h] at hj; simp at hj
    rw [e, Nat.zero_mul, Nat.zero_add, List.getElem?_append_left this]; exact hj
  | z0 :: zs, _, ⟨x, o', e, hx, p, h⟩, i + 1, z, hi => by
    simp at hi
    obtain ⟨y, q, hy, hg⟩ := h.get hi
    refine ⟨y, q, hy, fun j v hj => ?_⟩
    rw [e, List.getElem?_append_right (by rw [hx, Nat.add_mul]; omega)]
    have : (i + 1) * sz + j - x.length = i * sz + j := by rw [hx, Nat.add_mul]; omega
    rw [this]; exact hg j v hj
theorem setL_mid {β : Type} : ∀ (vs a : List β) (b c : List β), b.length = vs.length → setL (a ++ b ++ c) a.length vs = a ++ vs ++ c
  | [], a, b, c, h => by have : b = [] := by simpa using h
                         subst this; simp [setL]
  | v :: vs, a, [], c, h => by simp at h
  | v :: vs, a, b0 :: b, c, h => by
    have h' : b.length = vs.length := by simpa using h
    unfold setL
    have e : (a ++ b0 :: b ++ c).set a.length v = (a ++ [v]) ++ b ++ c := by
      rw [List.append_assoc, List.set_append_right _ _ (Nat.le_refl _)]; simp
    rw [e]
    have e2 : a.length + 1 = (a ++ [v]).length := by simp
    rw [e2, setL_mid vs (a ++ [v]) b c h']; simp
theorem Cells.set : ∀ {zs : List α} {o : List Value}, Cells sz P V o zs → ∀ {i : Nat} {y : List Value} {z : α}, i < zs.length → y.length = sz → P V y z →
    ∀ pre : List Value, ∃ o', setL (pre ++ o) (pre.length + i * sz) y = pre ++ o' ∧ Cells sz P V o' (zs.set i z)
  | [], _, _, i, _, _, hi, _, _, _ => by simp at hi
  | z0 :: zs, _, ⟨x, o', e, hx, p, h⟩, 0, y, z, hi, hy, q, pre => by
    refine ⟨y ++ o', ?_, y, o', rfl, hy, q, h⟩
    rw [e, Nat.zero_mul, Nat.add_zero, ← List.append_assoc, setL_mid y pre x o' (by rw [hx, hy])]; simp
  | z0 :: zs, _, ⟨x, o', e, hx, p, h⟩, i + 1, y, z, hi, hy, q, pre => by
    obtain ⟨o2, e2, h2⟩ := h.set (i := i) (by simpa using hi) hy q (pre ++ x)
    refine ⟨x ++ o2, ?_, x, o2, rfl, hx, p, h2⟩
    have e3 : (pre ++ x).length + i * sz = pre.length + (i + 1) * sz := by rw [List.length_append, hx, Nat.add_mul]; omega
    rw [e, ← e3, ← List.append_assoc, e2, List.append_assoc]
theorem Cells.set0 {zs : List α} {o : List Value} (h : Cells sz P V o zs) {i : Nat} {y : List Value} {z : α} (hi : i < zs.length) (hy : y.length = sz) (q : P V y z) :
    Cells sz P V (setL o (0 + i * sz) y) (zs.set i z) := by
  obtain ⟨o', e, h'⟩ := h.set hi hy q []
  simp only [List.nil_append, List.length_nil] at e
  rw [e]; exact h'
theorem Cells.room {zs : List α} {o : List Value} (h : Cells sz P V o zs) {i : Nat} (hi : i < zs.length) : 0 + i * sz + sz ≤ o.length := by
  rw [h.length]
  have : (i + 1) * sz ≤ zs.length * sz := Nat.mul_le_mul_right _ hi
  rw [Nat.add_mul] at this; omega
theorem Cells.det (hd : ∀ x z z', P V x z → P V x z' → z = z') : ∀ {zs zs' : List α} {o : List Value}, 0 < sz → Cells sz P V o zs → Cells sz P V o zs' → zs = zs'
  | [], [], _, _, _, _ => rfl
  | [], z :: zs, o, h0, h, ⟨x, o', e, hx, _, _⟩ => by rw [show o = [] from h] at e; have := congrArg List.length e; simp at this; omega
  | z :: zs, [], o, h0, ⟨x, o', e, hx, _, _⟩, h => by rw [show o = [] from h] at e; have := congrArg List.length e; simp at this; omega
  | z :: zs, z' :: zs', _, h0, ⟨x, o', e, hx, p, h⟩, ⟨x', o2, e', hx', p', h'⟩ => by
    rw [e] at e'
    obtain ⟨e1, e2⟩ := List.append_inj e' (by rw [hx, hx'])
    subst e1; subst e2
    rw [hd _ _ _ p p', h.det hd h0 h']

/-- A slice of such elements. -/
structure ListAt (sz : Nat) (P : View → List Value → α → Prop) (V : View) (s : Sl) (zs : List α) : Prop where
  len : s.len = zs.length
  cap : s.len ≤ s.cap
  some : zs ≠ [] → s.a.isSome = true
  cells : ∃ o, V.has s.a o ∧ Cells sz P V o zs

theorem ListAt.le (hP : ∀ x z, P V x z → P V' x z) (hle : V.le V') {s : Sl} {zs : List α} (h : ListAt sz P V s zs) : ListAt sz P V' s zs := by
  obtain ⟨o, h1, h2⟩ := h.cells
  exact ⟨h.len, h.cap, h.some, o, View.has_le hle h1, h2.imp hP⟩
theorem ListAt.nil : ListAt sz P V (Sl.mk none 0 0) ([] : List α) := ⟨rfl, Nat.le_refl _, by simp, [], by intro j v h; simp at h, rfl⟩
theorem ListAt.get {s : Sl} {zs : List α} (h : ListAt sz P V s zs) {t : Int} (h0 : 0 ≤ t) {z : α} (hz : zs[t.toNat]? = .some z) :
    ((0 : Int) ≤ t ∧ t < (s.len : Nat) ∧ Option.isSome s.a = true) ∧
    ∃ x, P V x z ∧ x.length = sz ∧ V.has (Option.map (fun q => Addr.add q (Int.toNat t * sz)) s.a) x ∧ Option.isSome (Option.map (fun q => Addr.add q (Int.toNat t * sz)) s.a) = true := by
  obtain ⟨o, h1, h2⟩ := h.cells
  obtain ⟨x, p, hx, hg⟩ := h2.get hz
  have hlt : t.toNat < zs.length := by
    rcases Nat.lt_or_ge t.toNat zs.length with h | h
    · exact h
    · rw [List.getElem?_eq_none h] at hz; simp at hz
  have hne : zs ≠ [] := by intro e; rw [e] at hlt; simp at hlt
  have hs := h.some hne
  have hl := h.len
  refine ⟨⟨h0, by omega, hs⟩, x, p, hx, fun j v hj => ?_, by simpa using hs⟩
  have := h1 _ v (hg j v hj)
  rw [Option.map_map]
  have e : ((fun x : Addr => x.add j) ∘ fun q : Addr => q.add (t.toNat * sz)) = fun q : Addr => q.add (t.toNat * sz + j) := by
    funext a; exact addr_add2 a _ _
  rw [e]; exact this
/-- A block that is wholly known, or more of it than the list. -/
theorem ListAt.of_block {b c : Nat} {o o' : List Value} {zs : List α} (hb : o ++ o' ≠ [] → V b = .some (o ++ o').toArray) (h : Cells sz P V o zs) {n : Nat} (hn : n = zs.length) (hc : n ≤ c) {a : Option Addr}
    (ha : c ≠ 0 → a = .some ⟨b, 0, none⟩) : ListAt sz P V ⟨a, n, c⟩ zs := by
  refine ⟨hn, hc, fun hne => ?_, o, fun j v hj => ?_, h⟩
  · have : zs.length ≠ 0 := by simpa using hne
    rw [ha (by omega)]; rfl
  · have hj' : j < o.length := by
      rcases Nat.lt_or_ge j o.length with h | h
      · exact h
      · rw [List.getElem?_eq_none h] at hj; simp at hj
    have hl := h.length
    have hz : zs.length ≠ 0 := by intro e; rw [e] at hl; omega
    have hne : o ++ o' ≠ [] := by intro e; have := congrArg List.length e; simp at this; simp [this] at hj'
    show V.load (a.map (·.add j)) = .some v
    rw [ha (by omega)]
    rw [load_block (hb hne), List.getElem?_toArray, List.getElem?_append_left hj']; exact hj
theorem LstOk.split {n cap : Nat} {o l : List Value} (h : LstOk sz n cap o l) : ∃ o', o = l ++ o' := ⟨o.drop (n * sz), by rw [← h.take, List.take_append_drop]⟩
theorem LstOk.nil : LstOk sz 0 0 [] [] := ⟨Nat.le_refl _, by simp, by simp⟩
/-- A grown list that is given away. -/
theorem ListAt.of_lst {b n cap : Nat} {o l : List Value} {zs : List α} (hl : LstOk sz n cap o l) (hb : o ≠ [] → V b = .some o.toArray) (h : Cells sz P V l zs) (hn : n = zs.length) :
    ListAt sz P V ⟨lstA b cap, n, cap⟩ zs := by
  obtain ⟨o', e⟩ := hl.split
  refine ListAt.of_block (o := l) (o' := o') (b := b) (fun hne => ?_) h hn hl.le (fun hc => by simp [lstA, hc])
  rw [← e]; exact hb (by rw [e]; exact hne)
/-- A made list that is given away. -/
theorem ListAt.of_made {b n : Nat} {o : List Value} {zs : List α} (hb : V b = .some o.toArray) (h : Cells sz P V o zs) (hn : n = zs.length) : ListAt sz P V ⟨.some ⟨b, 0, none⟩, n, n⟩ zs :=
  ListAt.of_block (o := o) (o' := []) (b := b) (fun _ => by simpa using hb) h hn (Nat.le_refl _) (fun _ => rfl)
end

/-- The cells of a number. -/
def numC (V : View) (x : List Value) (z : Cq) : Prop := ∃ n : NumV, x = n.val.cells.toList ∧ NumAt V n z
theorem numC.le {V V' : View} (hle : V.le V') (x : List Value) (z : Cq) (h : numC V x z) : numC V' x z := by
  obtain ⟨n, e, hn⟩ := h; exact ⟨n, e, hn.le hle⟩
theorem num_cells (n : NumV) : n.val.cells.toList = [.bool n.re.neg, n.re.mag.v, .bool n.im.neg, n.im.mag.v, n.under.v] := rfl
/-- A slice of the program's numbers. -/
def NumsAt (V : View) (s : Sl) (zs : List Cq) : Prop := ListAt 5 numC V s zs
def NumsIn (V : View) (o : List Value) (zs : List Cq) : Prop := Cells 5 numC V o zs
theorem NumsAt.le {V V' : View} (hle : V.le V') {s : Sl} {zs : List Cq} (h : NumsAt V s zs) : NumsAt V' s zs := ListAt.le (numC.le hle) hle h
theorem NumsIn.le {V V' : View} (hle : V.le V') {o : List Value} {zs : List Cq} (h : NumsIn V o zs) : NumsIn V' o zs := Cells.imp (numC.le hle) h
def nth (zs : List Cq) (i : Nat) : Cq := zs.getD i Cq.zero
theorem nth_get {zs : List Cq} {i : Nat} (h : i < zs.length) : zs[i]? = some (nth zs i) := by simp [nth, List.getD, h]
theorem NumsAt.get {V : View} {s : Sl} {zs : List Cq} (h : NumsAt V s zs) {t : Int} (h0 : 0 ≤ t) (h1 : t.toNat < zs.length) :
    ((0 : Int) ≤ t ∧ t < (s.len : Nat) ∧ Option.isSome s.a = true) ∧
    ∃ x : NumV, V.has (Option.map (fun q => Addr.add q (Int.toNat t * 5)) s.a) x.val.cells.toList ∧ Option.isSome (Option.map (fun q => Addr.add q (Int.toNat t * 5)) s.a) = true ∧ NumAt V x (nth zs t.toNat) := by
  obtain ⟨hb, x, ⟨n, e, hn⟩, _, h1, h2⟩ := ListAt.get h h0 (nth_get h1)
  exact ⟨hb, n, e ▸ h1, h2, hn⟩
theorem NumsIn.zeros (V : View) (n : Nat) : NumsIn V ((List.replicate n [Value.bool false, Value.slice none 0 0, Value.bool false, Value.slice none 0 0, Value.slice none 0 0]).flatten) (List.replicate n Cq.zero) :=
  Cells.replicate (x := [Value.bool false, Value.slice none 0 0, Value.bool false, Value.slice none 0 0, Value.slice none 0 0]) rfl ⟨_, rfl, NumAt.zero V⟩ n
theorem NumsIn.set {V : View} {o : List Value} {zs : List Cq} (h : NumsIn V o zs) {i : Nat} (hi : i < zs.length) {r : NumV} {z : Cq} (hr : NumAt V r z) :
    NumsIn V (setL o (0 + i * 5) [.bool r.re.neg, r.re.mag.v, .bool r.im.neg, r.im.mag.v, r.under.v]) (zs.set i z) := Cells.set0 h hi rfl ⟨r, rfl, hr⟩
theorem NumsIn.push {V : View} {o : List Value} {zs : List Cq} (h : NumsIn V o zs) {r : NumV} {z : Cq} (hr : NumAt V r z) :
    NumsIn V (o ++ [.bool r.re.neg, r.re.mag.v, .bool r.im.neg, r.im.mag.v, r.under.v]) (zs ++ [z]) := Cells.append h (Cells.one rfl ⟨r, rfl, hr⟩)
/-- A list that is filled from the start on. -/
def filled (n k : Nat) (f : Nat → Cq) : List Cq := (List.range k).map f ++ List.replicate (n - k) Cq.zero
theorem filled_zero (n : Nat) (f : Nat → Cq) : filled n 0 f = List.replicate n Cq.zero := by simp [filled]
theorem filled_all (n : Nat) (f : Nat → Cq) : filled n n f = (List.range n).map f := by simp [filled]
theorem filled_length {n k : Nat} (h : k ≤ n) (f : Nat → Cq) : (filled n k f).length = n := by simp [filled]; omega
theorem filled_set {n k : Nat} (h : k < n) (f : Nat → Cq) : (filled n k f).set k (f k) = filled n (k + 1) f := by
  unfold filled
  rw [List.set_append_right _ _ (by simp)]
  simp only [List.length_map, List.length_range, Nat.sub_self]
  have : n - k = (n - (k + 1)) + 1 := by omega
  rw [this, List.replicate_succ, List.set_cons_zero, List.range_succ, List.map_append]; simp
theorem nth_map {n i : Nat} (h : i < n) (f : Nat → Cq) : nth ((List.range n).map f) i = f i := by simp [nth, List.getD, h]
theorem push_range (k : Nat) (f : Nat → Cq) : (List.range k).map f ++ [f k] = (List.range (k + 1)).map f := by rw [List.range_succ, List.map_append]; rfl
theorem list_of_nth (zs : List Cq) : (List.range zs.length).map (nth zs) = zs := by
  apply List.ext_getElem (by simp)
  intro i h1 h2
  simp [nth, List.getD, h2]

/-- What is handed over as a list of numbers is a slice of numbers. -/
theorem CallO.nums {P : Program} {f : FuncId} {args : Array Value} {ty : TypeId} {V : View} {zs : List Cq} (hz : zs ≠ [])
    (h : CallO P f args ty V fun n cap l rest V' => n = zs.length ∧ cap = n ∧ rest = [] ∧ NumsIn V' l zs) :
    CallV P f args V fun v V' => ∃ r : Sl, v = r.v ∧ NumsAt V' r zs := by
  refine h.known.mono fun v V' _ ⟨b, n, cap, l, rest, V1, hv, l1, hb, hn, hc, hr, hl⟩ => ?_
  subst hc; subst hr
  have hl0 : l ≠ [] := by
    intro e; subst e
    have h1 := Cells.length hl
    have : zs.length ≠ 0 := by simpa using hz
    simp at h1; omega
  refine ⟨⟨lstA b cap, cap, cap⟩, hv, ListAt.of_block (o := l) (o' := []) (b := b) (fun _ => by simpa using hb hl0) (hl.le l1) hn (Nat.le_refl _) (fun hc => by simp [lstA, hc])⟩

/-- The numbers of a list, from one on, every second. -/
def everyF (zs : List Cq) (a : Nat) : List Cq := (List.range ((zs.length + 1 - a) / 2)).map fun k => nth zs (a + 2 * k)
theorem everyF_length (zs : List Cq) (a : Nat) : (everyF zs a).length = (zs.length + 1 - a) / 2 := by simp [everyF]
theorem everyF_nth {zs : List Cq} {a k : Nat} (h : k < (zs.length + 1 - a) / 2) : nth (everyF zs a) k = nth zs (a + 2 * k) := nth_map h _
/-- The transform in stages. -/
def stageF : Nat → List Cq → List Cq → List Cq
  | 0, zs, _ => [nth zs 0]
  | m + 1, zs, ws => (List.range (2 ^ (m + 1))).map fun i =>
      if i < 2 ^ m then nth (stageF m (everyF zs 0) (everyF ws 0)) i + nth (stageF m (everyF zs 1) (everyF ws 0)) i * nth ws i
      else nth (stageF m (everyF zs 0) (everyF ws 0)) (i - 2 ^ m) - nth (stageF m (everyF zs 1) (everyF ws 0)) (i - 2 ^ m) * nth ws (i - 2 ^ m)
theorem stageF_length (m : Nat) (zs ws : List Cq) : (stageF m zs ws).length = 2 ^ m := by cases m <;> simp [stageF]
theorem stageF_sz : ∀ (m : Nat) (zs ws : List Cq) (S T : Nat), zs.length = 2 ^ m → ws.length = 2 ^ m → (∀ i, i < 2 ^ m → (nth zs i).sz ≤ S) → (∀ i, i < 2 ^ m → (nth ws i).sz ≤ T) →
    ∀ i, i < 2 ^ m → (nth (stageF m zs ws) i).sz + (T + 2) ≤ 2 ^ m * (S + T + 2)
  | 0, zs, ws, S, T, _, _, hS, _, i, hi => by
    have h0 : i = 0 := by simpa using hi
    subst h0
    have h2 := hS 0 (by simp)
    have e : nth (stageF 0 zs ws) 0 = nth zs 0 := rfl
    rw [e]; omega
  | m + 1, zs, ws, S, T, hz, hw, hS, hT, i, hi => by
    have hp : 2 ^ (m + 1) = 2 * 2 ^ m := by rw [Nat.pow_succ]; omega
    have key : ∀ a, a ≤ 1 → ∀ k, k < 2 ^ m → (nth (stageF m (everyF zs a) (everyF ws 0)) k).sz + (T + 2) ≤ 2 ^ m * (S + T + 2) := by
      intro a ha
      refine stageF_sz m _ _ S T (by rw [everyF_length]; omega) (by rw [everyF_length]; omega) ?_ ?_
      · intro k hk
        rw [everyF_nth (by omega)]
        exact hS _ (by omega)
      · intro k hk
        rw [everyF_nth (by omega)]
        exact hT _ (by omega)
    have e : 2 ^ (m + 1) * (S + T + 2) = 2 * (2 ^ m * (S + T + 2)) := by rw [hp, Nat.mul_assoc]
    unfold stageF
    rw [nth_map hi, e]
    split
    · have h1 := key 0 (by omega) i (by assumption)
      have h2 := key 1 (by omega) i (by assumption)
      have h3 := hT i hi
      have h4 := Cq.sz_mul (nth (stageF m (everyF zs 1) (everyF ws 0)) i) (nth ws i)
      have h5 := Cq.sz_add (nth (stageF m (everyF zs 0) (everyF ws 0)) i) (nth (stageF m (everyF zs 1) (everyF ws 0)) i * nth ws i)
      omega
    · have h1 := key 0 (by omega) (i - 2 ^ m) (by omega)
      have h2 := key 1 (by omega) (i - 2 ^ m) (by omega)
      have h3 := hT (i - 2 ^ m) (by omega)
      have h4 := Cq.sz_mul (nth (stageF m (everyF zs 1) (everyF ws 0)) (i - 2 ^ m)) (nth ws (i - 2 ^ m))
      have h5 := Cq.sz_sub (nth (stageF m (everyF zs 0) (everyF ws 0)) (i - 2 ^ m)) (nth (stageF m (everyF zs 1) (everyF ws 0)) (i - 2 ^ m) * nth ws (i - 2 ^ m))
      omega
/-- A list that is filled from the start and from the middle on. -/
def halves (h k : Nat) (a b : Nat → Cq) : List Cq := (List.range (2 * h)).map fun i => if i < h then (if i < k then a i else Cq.zero) else (if i - h < k then b (i - h) else Cq.zero)
theorem halves_zero (h : Nat) (a b : Nat → Cq) : halves h 0 a b = List.replicate (2 * h) Cq.zero := by
  apply List.ext_getElem (by simp [halves])
  intro i h1 h2
  simp [halves]
theorem halves_set {h k : Nat} (hk : k < h) (a b : Nat → Cq) : ((halves h k a b).set k (a k)).set (k + h) (b k) = halves h (k + 1) a b := by
  apply List.ext_getElem (by simp [halves])
  intro i h1 h2
  simp only [halves, List.getElem_set, List.getElem_map, List.getElem_range]
  by_cases e1 : k + h = i
  · subst e1
    have : ¬ k + h < h := by omega
    simp [this]
  · by_cases e2 : k = i
    · subst e2
      have e4 : h ≠ 0 := by omega
      simp [e4, hk]
    · simp only [e1, e2, if_false]
      by_cases e3 : i < h
      · have : (i < k + 1) ↔ i < k := by omega
        simp [e3, this]
      · have : (i - h < k + 1) ↔ i - h < k := by omega
        simp [e3, this]

/-- An element's cells, cut out. -/
theorem Cells.cut {α : Type} {sz : Nat} {P : View → List Value → α → Prop} {V : View} : ∀ {zs : List α} {o : List Value}, Cells sz P V o zs → ∀ {i : Nat} {z : α}, zs[i]? = some z → P V ((o.drop (i * sz)).take sz) z
  | [], _, _, i, z, hi => by simp at hi
  | z0 :: zs, _, ⟨x, o', e, hx, p, h⟩, 0, z, hi => by
    simp at hi; subst hi
    rw [e, Nat.zero_mul, List.drop_zero, List.take_append_of_le_length (by omega), List.take_of_length_le (by omega)]; exact p
  | z0 :: zs, _, ⟨x, o', e, hx, p, h⟩, i + 1, z, hi => by
    simp at hi
    have := h.cut hi
    have e2 : (i + 1) * sz = x.length + i * sz := by rw [hx, Nat.add_mul]; omega
    rw [e, e2, ← List.drop_drop, List.drop_left]; exact this
theorem NumsIn.cut {V : View} {o : List Value} {zs : List Cq} (h : NumsIn V o zs) {i : Nat} (hi : i < zs.length) :
    ∃ x : NumV, List.take 5 (List.drop (0 + i * 5) o) = x.val.cells.toList ∧ NumAt V x (nth zs i) := by
  rw [Nat.zero_add]
  exact Cells.cut h (nth_get hi)
/-- As 'CallO.nums', with a whole number beside the list. -/
theorem CallO.nums1 {P : Program} {f : FuncId} {args : Array Value} {ty : TypeId} {V : View} {zs : List Cq} {e : Value} (hz : zs ≠ [])
    (h : CallO P f args ty V fun n cap l rest V' => n = zs.length ∧ cap = n ∧ rest = [e] ∧ NumsIn V' l zs) :
    CallV P f args V fun v V' => ∃ r : Sl, v = .tuple #[r.v, e] ∧ NumsAt V' r zs := by
  refine h.known.mono fun v V' _ ⟨b, n, cap, l, rest, V1, hv, l1, hb, hn, hc, hr, hl⟩ => ?_
  subst hc; subst hr
  have hl0 : l ≠ [] := by
    intro e; subst e
    have h1 := Cells.length hl
    have : zs.length ≠ 0 := by simpa using hz
    simp at h1; omega
  refine ⟨⟨lstA b cap, cap, cap⟩, hv, ListAt.of_block (o := l) (o' := []) (b := b) (fun _ => by simpa using hb hl0) (hl.le l1) hn (Nat.le_refl _) (fun hc => by simp [lstA, hc])⟩
/-- A list of which the first elements are replaced. -/
def patch (n k : Nat) (a b : Nat → Cq) : List Cq := (List.range n).map fun i => if i < k then a i else b i
theorem patch_length (n k : Nat) (a b : Nat → Cq) : (patch n k a b).length = n := by simp [patch]
theorem patch_zero (a : Nat → Cq) (zs : List Cq) : patch zs.length 0 a (nth zs) = zs := by
  have := list_of_nth zs
  simpa [patch] using this
theorem patch_all (n : Nat) (a b : Nat → Cq) : patch n n a b = (List.range n).map a := by
  apply List.map_congr_left
  intro i hi
  rw [if_pos (by simpa using hi)]
theorem patch_set {n k : Nat} (hk : k < n) (a b : Nat → Cq) : (patch n k a b).set k (a k) = patch n (k + 1) a b := by
  apply List.ext_getElem (by simp [patch])
  intro i h1 h2
  simp only [patch, List.getElem_set, List.getElem_map, List.getElem_range]
  by_cases e : k = i
  · subst e; simp
  · have : (i < k + 1) ↔ i < k := by omega
    simp [e, this]
theorem patch_nth {n k i : Nat} (hi : i < n) (hk : k ≤ i) (a b : Nat → Cq) : nth (patch n k a b) i = b i := by
  unfold patch
  rw [nth_map hi, if_neg (by omega)]

/-- The transform by its definition. -/
def fsum (zs ws : List Cq) (k : Nat) : Nat → Cq
  | 0 => nth zs 0 * nth ws 0
  | j + 1 => fsum zs ws k j + nth zs (j + 1) * nth ws ((j + 1) * k % zs.length)
def fwdF (zs ws : List Cq) : List Cq := (List.range zs.length).map fun k => fsum zs ws k (zs.length - 1)
theorem fwdF_length (zs ws : List Cq) : (fwdF zs ws).length = zs.length := by simp [fwdF]
theorem fsum_sz (zs ws : List Cq) (k S T : Nat) (hl : ws.length = zs.length) (hS : ∀ i, i < zs.length → (nth zs i).sz ≤ S) (hT : ∀ i, i < zs.length → (nth ws i).sz ≤ T) :
    ∀ j, j < zs.length → (fsum zs ws k j).sz ≤ (j + 1) * (S + T + 2)
  | 0, h => by
    have h1 := hS 0 h
    have h2 := hT 0 h
    have := Cq.sz_mul (nth zs 0) (nth ws 0)
    simp only [fsum]; omega
  | j + 1, h => by
    have ih := fsum_sz zs ws k S T hl hS hT j (by omega)
    have h1 := hS (j + 1) h
    have h2 := hT ((j + 1) * k % zs.length) (Nat.mod_lt _ (by omega))
    have h3 := Cq.sz_mul (nth zs (j + 1)) (nth ws ((j + 1) * k % zs.length))
    have h4 := Cq.sz_add (fsum zs ws k j) (nth zs (j + 1) * nth ws ((j + 1) * k % zs.length))
    rw [Nat.add_mul (j + 1) 1]
    simp only [fsum]; omega
theorem fwdF_sz (zs ws : List Cq) (S T : Nat) (hl : ws.length = zs.length) (hS : ∀ i, i < zs.length → (nth zs i).sz ≤ S) (hT : ∀ i, i < zs.length → (nth ws i).sz ≤ T) :
    ∀ i, i < zs.length → (nth (fwdF zs ws) i).sz ≤ zs.length * (S + T + 2) := by
  intro i hi
  unfold fwdF
  rw [nth_map hi]
  have := fsum_sz zs ws i S T hl hS hT (zs.length - 1) (by omega)
  rw [Nat.sub_add_cancel (by omega)] at this
  exact this
def conjF (ws : List Cq) : List Cq := (List.range ws.length).map fun i => (nth ws i).conj
theorem conjF_length (ws : List Cq) : (conjF ws).length = ws.length := by simp [conjF]
theorem conjF_sz (ws : List Cq) (T : Nat) (hT : ∀ i, i < ws.length → (nth ws i).sz ≤ T) : ∀ i, i < ws.length → (nth (conjF ws) i).sz ≤ T := by
  intro i hi
  unfold conjF
  rw [nth_map hi, Cq.sz_conj]; exact hT i hi
/-- One part in so many. -/
def partQ (n : Nat) : Cq := ⟨((1 : Int) : Rat) / ((n : Int) : Rat), ((0 : Int) : Rat) / ((n : Int) : Rat)⟩
def sharesF (zs : List Cq) : List Cq := (List.range zs.length).map fun i => nth zs i * partQ zs.length
theorem sharesF_length (zs : List Cq) : (sharesF zs).length = zs.length := by simp [sharesF]
theorem partQ_sz {n : Nat} (h : 1 ≤ n) (hn : n ≤ 64) : (partQ n).sz ≤ 8 := by
  have hr : Rep (partQ n) 1 0 n := ⟨by omega, by simp only [partQ]; push_cast; rfl, by simp only [partQ]; push_cast; rfl⟩
  refine hr.sz ?_ ?_ ?_
  · exact bl_le_of_lt (by decide)
  · exact bl_le_of_lt (by decide)
  · exact bl_le_of_lt (by omega)
theorem sharesF_sz (zs : List Cq) (S : Nat) (hn : zs.length ≤ 64) (hS : ∀ i, i < zs.length → (nth zs i).sz ≤ S) : ∀ i, i < zs.length → (nth (sharesF zs) i).sz ≤ S + 9 := by
  intro i hi
  unfold sharesF
  rw [nth_map hi]
  have h1 := hS i hi
  have h2 := partQ_sz (n := zs.length) (by omega) hn
  have := Cq.sz_mul (nth zs i) (partQ zs.length)
  omega
end Go.Vc
