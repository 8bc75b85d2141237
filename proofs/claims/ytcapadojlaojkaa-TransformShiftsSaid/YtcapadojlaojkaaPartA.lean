/- Part of the proof; it has the parts VcA VcB VcC VcD VcE VcF VcG. -/
import Derived.Orders
import Derived.Below
import Derived.KernelRfl
import Derived.Laws.Cells
import Derived.Laws.Rows
import Derived.Laws.CopyRow
import Derived.Laws.MakeOwn
import Derived.Laws.OwnMore
import Derived.Laws.IdiomStrings
import Derived.Lib.SliceRun
namespace Go.Vc
open Go Go.RowKit

/-- What is known of memory for good: blocks that nobody writes any more. -/
abbrev View := Nat → Option (Array Value)
def View.le (V V' : View) : Prop := ∀ b cs, V b = some cs → V' b = some cs
def View.In (V : View) (w : World) : Prop := ∀ b cs, V b = some cs → ∃ T fr, w.heap[b]? = some (.cells cs T fr)
def View.load (V : View) : Option Addr → Option Value
  | some a => if a.spot.isSome then none else (V a.block).bind (·[a.off]?)
  | none => none
/-- The cells from a place on. -/
def View.has (V : View) (p : Option Addr) (l : List Value) : Prop := ∀ j v, l[j]? = some v → V.load (p.map (·.add j)) = some v

theorem View.le_refl (V : View) : V.le V := fun _ _ h => h
theorem View.le_trans {V V' V'' : View} (h : V.le V') (k : V'.le V'') : V.le V'' := fun b cs e => k b cs (h b cs e)
theorem View.In_of_le {V V' : View} {w : World} (h : V.le V') (k : V'.In w) : V.In w := fun b cs e => k b cs (h b cs e)
theorem View.load_le {V V' : View} (h : V.le V') {p : Option Addr} {v : Value} (e : V.load p = some v) : V'.load p = some v := by
  cases p with
  | none => simp [View.load] at e
  | some a =>
    simp only [View.load] at e ⊢
    split at e
    · simp at e
    · rename_i hs
      rw [if_neg hs]
      cases hb : V a.block with
      | none => simp [hb] at e
      | some cs => rw [h _ _ hb]; simpa [hb] using e
theorem View.has_le {V V' : View} (h : V.le V') {p : Option Addr} {l : List Value} (e : V.has p l) : V'.has p l :=
  fun j v hv => View.load_le h (e j v hv)
theorem View.load_cell {V : View} {w : World} (h : V.In w) {a : Addr} {v : Value} (e : V.load (some a) = some v) : w.cell? a = some v := by
  simp only [View.load] at e
  split at e
  · simp at e
  · rename_i hs
    cases hb : V a.block with
    | none => simp [hb] at e
    | some cs =>
      obtain ⟨T, fr, hw⟩ := h _ _ hb
      simp only [World.cell?, hw]
      rw [if_neg hs]
      simpa [hb] using e

/-- What is newly known is of new blocks. -/
def View.fresh (V : View) (n : Nat) (V' : View) : Prop := ∀ b cs, V' b = some cs → V b = some cs ∨ n ≤ b
theorem View.fresh_refl (V : View) (n : Nat) : V.fresh n V := fun _ _ h => .inl h
theorem View.fresh_trans {V V' V'' : View} {n m : Nat} (h : V.fresh n V') (k : V'.fresh m V'') (hn : n ≤ m) : V.fresh n V'' := fun b cs e => by
  rcases k b cs e with h1 | h1
  · exact h b cs h1
  · exact .inr (Nat.le_trans hn h1)

/-- As 'Below', but for some blocks that the caller has lent. -/
structure BelowX (B : List Nat) (w w' : World) : Prop where
  os : w'.os = w.os
  tape : w'.tape = w.tape
  output : w'.output = w.output
  size : w.heap.size ≤ w'.heap.size
  block : ∀ k, k < w.heap.size → k ∉ B → w'.heap[k]? = w.heap[k]?

theorem BelowX.refl (B : List Nat) (w : World) : BelowX B w w := ⟨rfl, rfl, rfl, Nat.le_refl _, fun _ _ _ => rfl⟩
theorem BelowX.trans {B : List Nat} {a b c : World} (h : BelowX B a b) (k : BelowX B b c) : BelowX B a c :=
  ⟨k.os.trans h.os, k.tape.trans h.tape, k.output.trans h.output, Nat.le_trans h.size k.size,
    fun i hi hn => (k.block i (Nat.lt_of_lt_of_le hi h.size) hn).trans (h.block i hi hn)⟩
theorem BelowX.drew {B : List Nat} {a w : World} (h : BelowX B a w) : BelowX B a w.drew := ⟨h.os, h.tape, h.output, h.size, h.block⟩
theorem BelowX.alloc {B : List Nat} {a w : World} (h : BelowX B a w) (o : Obj) : BelowX B a (w.alloc o) :=
  h.trans ⟨rfl, rfl, rfl, by simp, fun k hk _ => Below.heap_alloc _ _ _ hk⟩
theorem BelowX.below {w w' : World} (h : BelowX [] w w') : Below w.heap.size w w' :=
  ⟨h.os, h.tape, h.output, h.size, fun k hk => h.block k hk (by simp)⟩
theorem BelowX.of_below {B : List Nat} {w w' : World} (h : Below w.heap.size w w') : BelowX B w w' :=
  ⟨h.os, h.tape, h.output, h.size, fun k hk _ => h.block k hk⟩
theorem BelowX.mono {B B' : List Nat} {w w' : World} (h : BelowX B w w') (hB : ∀ k, k ∈ B → k < w.heap.size → k ∈ B') : BelowX B' w w' :=
  ⟨h.os, h.tape, h.output, h.size, fun k hk hn => h.block k hk (fun hb => hn (hB k hb hk))⟩

/-- A call from a view: it returns, and what it returns and the view behind it are so and so. -/
def CallV (P : Program) (f : FuncId) (args : Array Value) (V : View) (R : Value → View → Prop) : Prop :=
  ∀ w, V.In w → Calls P f args w fun e w' => ∃ v V', e = .returned v ∧ V.le V' ∧ V'.In w' ∧ V.fresh w.heap.size V' ∧ Below w.heap.size w w' ∧ R v V'

/-- A call to which a slice over a block of the caller's own is lent (its first argument). -/
def CallD (P : Program) (f : FuncId) (mk : Nat → List Value) (ty : TypeId) (l : List Value) (V : View) (R : Value → List Value → View → Prop) : Prop :=
  ∀ w b, V.In w → w.heap[b]? = some (.cells l.toArray ty (0, 0)) → V b = none → Calls P f (mk b).toArray w fun e w' => ∃ v V' l', e = .returned v ∧ V.le V' ∧ V'.In w' ∧
    V.fresh w.heap.size V' ∧ BelowX [b] w w' ∧ w'.heap[b]? = some (.cells l'.toArray ty (0, 0)) ∧ V' b = none ∧ R v l' V'
/-- Where a list lies. -/
def lstA (b cap : Nat) : Option Addr := if cap = 0 then none else some ⟨b, 0, none⟩
/-- What a call returns that hands over a slice of its own, and perhaps more. -/
def ownRes (b n cap : Nat) (rest : List Value) : Value :=
  match rest with
  | [] => .slice (lstA b cap) n cap
  | v :: vs => .tuple (Value.slice (lstA b cap) n cap :: v :: vs).toArray
/-- A call that hands over a slice: nobody else names its block. -/
def CallO (P : Program) (f : FuncId) (args : Array Value) (ty : TypeId) (V : View) (R : Nat → Nat → List Value → List Value → View → Prop) : Prop :=
  ∀ w, V.In w → Calls P f args w fun e w' => ∃ (b n cap : Nat) (l rest : List Value) (V' : View), e = .returned (ownRes b n cap rest) ∧ V.le V' ∧ V'.In w' ∧ V.fresh w.heap.size V' ∧ Below w.heap.size w w' ∧
    (l ≠ [] → w.heap.size ≤ b ∧ w'.heap[b]? = some (.cells l.toArray ty (0, 0)) ∧ V' b = none) ∧ R n cap l rest V'
theorem CallO.mono {P : Program} {f : FuncId} {args : Array Value} {ty : TypeId} {V : View} {R R' : Nat → Nat → List Value → List Value → View → Prop} (h : CallO P f args ty V R)
    (hr : ∀ n cap l rest V', V.le V' → R n cap l rest V' → R' n cap l rest V') : CallO P f args ty V R' :=
  fun w hw => (h w hw).mono fun _ _ ⟨b, n, cap, l, rest, V', he, hl, hi, hf, hb, ho, r⟩ => ⟨b, n, cap, l, rest, V', he, hl, hi, hf, hb, ho, hr n cap l rest V' hl r⟩
/-- What is handed over may be known to all from there on. -/
theorem CallO.known {P : Program} {f : FuncId} {args : Array Value} {ty : TypeId} {V : View} {R : Nat → Nat → List Value → List Value → View → Prop} (h : CallO P f args ty V R) :
    CallV P f args V fun v V' => ∃ (b n cap : Nat) (l rest : List Value) (V1 : View), v = ownRes b n cap rest ∧ V1.le V' ∧ (l ≠ [] → V' b = some l.toArray) ∧ R n cap l rest V1 := by
  intro w hw
  refine (h w hw).mono fun e w' ⟨b, n, cap, l, rest, V1, he, hl, hi, hf, hb, ho, r⟩ => ?_
  by_cases h0 : l = []
  · exact ⟨_, V1, he, hl, hi, hf, hb, b, n, cap, l, rest, V1, rfl, View.le_refl V1, fun h => absurd h0 h, r⟩
  · obtain ⟨h1, h2, h3⟩ := ho h0
    refine ⟨_, fun i => if i = b then some l.toArray else V1 i, he, ?_, ?_, ?_, hb, b, n, cap, l, rest, V1, rfl, ?_, fun _ => by simp, r⟩
    · intro i cs hc
      by_cases e : i = b
      · subst e; rw [hl i cs hc] at h3; simp at h3
      · simp [e, hl i cs hc]
    · intro i cs hc
      by_cases e : i = b
      · subst e; simp at hc; subst hc; exact ⟨ty, _, h2⟩
      · simp [e] at hc; exact hi i cs hc
    · intro i cs hc
      by_cases e : i = b
      · subst e; exact .inr h1
      · simp [e] at hc; exact hf i cs hc
    · intro i cs hc
      by_cases e : i = b
      · subst e; rw [h3] at hc; simp at hc
      · simp [e, hc]
/-- A call to which a slice over a block of the caller's own is lent, and that returns it. -/
def CallDS (P : Program) (f : FuncId) (mk : Nat → List Value) (ty : TypeId) (l : List Value) (V : View) (R : List Value → View → Prop) : Prop :=
  ∀ w b, V.In w → w.heap[b]? = some (.cells l.toArray ty (0, 0)) → V b = none → Calls P f (mk b).toArray w fun e w' => ∃ V' l', e = .returned ((mk b).headD undef) ∧ V.le V' ∧ V'.In w' ∧
    V.fresh w.heap.size V' ∧ BelowX [b] w w' ∧ w'.heap[b]? = some (.cells l'.toArray ty (0, 0)) ∧ V' b = none ∧ R l' V'
theorem CallDS.mono {P : Program} {f : FuncId} {mk : Nat → List Value} {ty : TypeId} {l : List Value} {V : View} {R R' : List Value → View → Prop} (h : CallDS P f mk ty l V R)
    (hr : ∀ l' V', V.le V' → R l' V' → R' l' V') : CallDS P f mk ty l V R' :=
  fun w b hw h1 h2 => (h w b hw h1 h2).mono fun _ _ ⟨V', l', he, hl, hi, hf, hb, h3, h4, r⟩ => ⟨V', l', he, hl, hi, hf, hb, h3, h4, hr l' V' hl r⟩
theorem CallD.mono {P : Program} {f : FuncId} {mk : Nat → List Value} {ty : TypeId} {l : List Value} {V : View} {R R' : Value → List Value → View → Prop} (h : CallD P f mk ty l V R)
    (hr : ∀ v l' V', V.le V' → R v l' V' → R' v l' V') : CallD P f mk ty l V R' :=
  fun w b hw h1 h2 => (h w b hw h1 h2).mono fun _ _ ⟨v, V', l', he, hl, hi, hf, hb, h3, h4, r⟩ => ⟨v, V', l', he, hl, hi, hf, hb, h3, h4, hr v l' V' hl r⟩

/-- Only so many blocks are known. -/
def View.Fin (V : View) : Prop := ∃ n, ∀ b, n ≤ b → V b = none
theorem View.In.fin {V : View} {w : World} (h : V.In w) : V.Fin := ⟨w.heap.size, fun b hb => by
  cases hv : V b with
  | none => rfl
  | some cs => obtain ⟨T, fr, hw⟩ := h b cs hv; rw [Array.getElem?_eq_none hb] at hw; simp at hw⟩
/-- Some world is as a view says. -/
theorem View.Fin.world {V : View} (h : V.Fin) : ∃ w, V.In w := by
  obtain ⟨n, hn⟩ := h
  refine ⟨{ (default : World) with heap := (Array.range n).map fun b => .cells ((V b).getD #[]) 0 }, fun b cs hb => ?_⟩
  have hlt : b < n := by
    rcases Nat.lt_or_ge b n with h | h
    · exact h
    · rw [hn b h] at hb; simp at hb
  exact ⟨0, (0, 0), by simp [hlt, hb]⟩

theorem CallV.mono' {P : Program} {f : FuncId} {args : Array Value} {V : View} {R R' : Value → View → Prop} (h : CallV P f args V R)
    (hr : ∀ v V', V.le V' → V'.Fin → R v V' → R' v V') : CallV P f args V R' :=
  fun w hw => (h w hw).mono fun _ _ ⟨v, V', he, hl, hi, hf, hb, r⟩ => ⟨v, V', he, hl, hi, hf, hb, hr v V' hl hi.fin r⟩
/-- A call comes to something. -/
theorem CallV.inst {P : Program} {f : FuncId} {args : Array Value} {V : View} {R : Value → View → Prop} (hV : V.Fin) (h : CallV P f args V R) :
    ∃ v V', V.le V' ∧ V'.Fin ∧ R v V' := by
  obtain ⟨w, hw⟩ := hV.world
  obtain ⟨_, _, _, ⟨v, V', _, hl, hi, _, _, r⟩, _⟩ := h w hw []
  exact ⟨v, V', hl, hi.fin, r⟩

theorem CallV.mono {P : Program} {f : FuncId} {args : Array Value} {V : View} {R R' : Value → View → Prop} (h : CallV P f args V R)
    (hr : ∀ v V', V.le V' → R v V' → R' v V') : CallV P f args V R' :=
  fun w hw => (h w hw).mono fun _ _ ⟨v, V', he, hl, hi, hf, hb, r⟩ => ⟨v, V', he, hl, hi, hf, hb, hr v V' hl r⟩

/-- A symbolic value: a value; a Bool that is decided; a pointer to a block of the call's own, by its name; a slice over such a block; a closure over such blocks; anything. -/
inductive SV where
  | val (v : Value)
  | lit (b : Bool)
  | own (id off : Nat)
  | osl (id off len cap : Nat)
  | clo (f : FuncId) (ids : List Nat)
  | lst (id n cap : Nat)
  | tlst (id n cap : Nat) (rest : List Value)
  | any

inductive Cs where
  | fixed (l : List SV)
  | dyn (l : List Value)
  | list (l : List Value)

/-- Whether there is a block at all: a list without any cells needs none. -/
def Cs.real : Cs → Prop
  | .list l => l ≠ []
  | _ => True

structure OB where
  ty : TypeId
  cs : Cs

structure St where
  tm : List SV
  own : List (Option OB)

def SV.asVal : SV → Option Value
  | .val v => some v
  | .lit b => some (.bool b)
  | _ => none

def St.ev (σ : St) : Operand → SV
  | .tmp t => σ.tm.getD t .any
  | .const v => .val v
  | .global g => .val (.pointer (some ⟨g, 0, none⟩))
  | .func f => .val (.func (.func f) #[] #[])

def St.put (σ : St) (dst : Option Tmp) (v : SV) : St :=
  match dst with
  | some d => { σ with tm := σ.tm.set d v }
  | none => σ

/-- 0: no block; 1: a block; 2: a list. -/
def kind : Option OB → Nat
  | none => 0
  | some ob => match ob.cs with
    | .list _ => 2
    | _ => 1

@[simp] theorem kind_fixed (ty : TypeId) (l : List SV) : kind (some ⟨ty, .fixed l⟩) = 1 := rfl
@[simp] theorem kind_dyn (ty : TypeId) (l : List Value) : kind (some ⟨ty, .dyn l⟩) = 1 := rfl
@[simp] theorem kind_list (ty : TypeId) (l : List Value) : kind (some ⟨ty, .list l⟩) = 2 := rfl

/-- What a symbolic value is in the run: 'addr' says where the own blocks lie. -/
def Rel (addr : Nat → Nat) (own : List (Option OB)) : SV → Value → Prop
  | .val v, x => x = v
  | .lit b, x => x = .bool b
  | .own id off, x => kind (own.getD id none) = 1 ∧ x = .pointer (some ⟨addr id, off, none⟩)
  | .osl id off len cap, x => kind (own.getD id none) = 1 ∧ x = .slice (some ⟨addr id, off, none⟩) len cap
  | .clo f ids, x => (∀ id ∈ ids, kind (own.getD id none) = 1) ∧ x = .func (.func f) #[] (ids.map fun id => Value.pointer (some ⟨addr id, 0, none⟩)).toArray
  | .lst id n cap, x => kind (own.getD id none) = 2 ∧ x = .slice (if cap = 0 then none else some ⟨addr id, 0, none⟩) n cap
  | .tlst id n cap rest, x => kind (own.getD id none) = 2 ∧ x = .tuple (Value.slice (if cap = 0 then none else some ⟨addr id, 0, none⟩) n cap :: rest).toArray
  | .any, _ => True

def BlkAt (addr : Nat → Nat) (own : List (Option OB)) (cs : Cs) (arr : Array Value) : Prop :=
  match cs with
  | .fixed l => arr.size = l.length ∧ ∀ i, i < l.length → Rel addr own (l.getD i .any) (arr.getD i undef)
  | .dyn l => arr = l.toArray
  | .list l => arr = l.toArray

/-- Where a call began: the world and the view. -/
structure Base where
  w : World
  V : View
  A : List Nat

/-- The run's frame and world are as the symbolic state and the view say. 'B': the lent blocks: own id and address. -/
structure Conc (B : List (Nat × Nat)) (w0 : Base) (σ : St) (V : View) (a : Act) (w : World) (addr : Nat → Nat) : Prop where
  size : a.tmps.size = σ.tm.length
  osize : σ.own.length = σ.tm.length
  rel : ∀ i, i < σ.tm.length → Rel addr σ.own (σ.tm.getD i .any) (a.tmps.getD i undef)
  defers : a.defers = []
  blk : ∀ id ob, σ.own.getD id none = some ob → ob.cs.real → ∃ arr, w.heap[addr id]? = some (.cells arr ob.ty (0, 0)) ∧ BlkAt addr σ.own ob.cs arr
  lo : ∀ id ob, σ.own.getD id none = some ob → ob.cs.real → w0.w.heap.size ≤ addr id ∨ addr id ∈ B.map (·.2) ++ w0.A
  lent : ∀ p, p ∈ B → addr p.1 = p.2 ∧ kind (σ.own.getD p.1 none) = 1
  out : ∀ id ob, σ.own.getD id none = some ob → ob.cs.real → V (addr id) = none
  inj : ∀ id id' ob ob', σ.own.getD id none = some ob → σ.own.getD id' none = some ob' → ob.cs.real → ob'.cs.real → addr id = addr id' → id = id'
  vin : V.In w
  below : BelowX (B.map (·.2) ++ w0.A) w0.w w
  fresh : w0.V.fresh w0.w.heap.size V

theorem Conc.eval {B w0 σ V a w addr} (h : Conc B w0 σ V a w addr) (x : Operand) : Rel addr σ.own (σ.ev x) (a.eval x) := by
  cases x with
  | tmp t =>
    simp only [St.ev, Act.eval]
    by_cases ht : t < σ.tm.length
    · exact h.rel t ht
    · have : σ.tm.getD t .any = .any := by simp [List.getD, List.getElem?_eq_none (Nat.le_of_not_lt ht)]
      rw [this]; trivial
  | const v => rfl
  | global g => rfl
  | func f => rfl

theorem Rel.asVal {addr own} {s : SV} {x v : Value} (h : Rel addr own s x) (hv : s.asVal = some v) : x = v := by
  cases s <;> simp [SV.asVal] at hv <;> subst hv <;> exact h

/-- Liveness is all of 'own' that matters. -/
theorem Rel.own_mono {addr addr' : Nat → Nat} {own own' : List (Option OB)} (hl : ∀ id, kind (own.getD id none) ≠ 0 → kind (own'.getD id none) = kind (own.getD id none) ∧ addr' id = addr id)
    {s : SV} {x : Value} (h : Rel addr own s x) : Rel addr' own' s x := by
  have h1 : ∀ {id}, kind (own.getD id none) = 1 → kind (own'.getD id none) = 1 ∧ addr' id = addr id := fun {id} e => by
    have := hl id (by omega); exact ⟨by omega, this.2⟩
  cases s with
  | val v => exact h
  | lit b => exact h
  | own id off => exact ⟨(h1 h.1).1, by rw [(h1 h.1).2]; exact h.2⟩
  | osl id off len cap => exact ⟨(h1 h.1).1, by rw [(h1 h.1).2]; exact h.2⟩
  | clo f ids =>
    refine ⟨fun id hid => (h1 (h.1 id hid)).1, ?_⟩
    rw [h.2]
    congr 2
    exact List.map_congr_left fun id hid => by rw [(h1 (h.1 id hid)).2]
  | lst id n cap =>
    have h2 := hl id (by have := h.1; omega)
    exact ⟨by have := h.1; omega, by rw [h2.2]; exact h.2⟩
  | tlst id n cap rest =>
    have h2 := hl id (by have := h.1; omega)
    exact ⟨by have := h.1; omega, by rw [h2.2]; exact h.2⟩
  | any => trivial

theorem BlkAt.own_mono {addr addr' : Nat → Nat} {own own' : List (Option OB)} (hl : ∀ id, kind (own.getD id none) ≠ 0 → kind (own'.getD id none) = kind (own.getD id none) ∧ addr' id = addr id)
    {cs : Cs} {arr : Array Value} (h : BlkAt addr own cs arr) : BlkAt addr' own' cs arr := by
  cases cs with
  | fixed l => exact ⟨h.1, fun i hi => Rel.own_mono hl (h.2 i hi)⟩
  | dyn l => exact h
  | list l => exact h

/-- A put into the frame. -/
theorem Conc.put {B w0 σ V a w addr} (h : Conc B w0 σ V a w addr) (dst : Option Tmp) {s : SV} {x : Value} (hs : Rel addr σ.own s x) :
    Conc B w0 (σ.put dst s) V (a.put dst x) w addr := by
  cases dst with
  | none => exact h
  | some d =>
    refine ⟨by simp [St.put, Act.put, h.size], by simp [St.put, h.osize], fun i hi => ?_, h.defers, h.blk, h.lo, h.lent, h.out, h.inj, h.vin, h.below, h.fresh⟩
    simp only [St.put, List.length_set] at hi
    simp only [St.put, Act.put]
    have hsz := h.size
    by_cases hd : d = i
    · subst hd
      have h1 : d < a.tmps.size := hsz ▸ hi
      simpa [List.getD, List.getElem?_set, hi, Array.getD_eq_getD_getElem?, h1] using hs
    · have := h.rel i hi
      simpa [List.getD, List.getElem?_set, hd, Array.getD_eq_getD_getElem?, Array.getElem?_setIfInBounds_ne hd] using this

/-- A draw changes nothing that is seen. -/
theorem Conc.drew {B w0 σ V a w addr} (h : Conc B w0 σ V a w addr) : Conc B w0 σ V a w.drew addr :=
  ⟨h.size, h.osize, h.rel, h.defers, h.blk, h.lo, h.lent, h.out, h.inj, h.vin, h.below.drew, h.fresh⟩

end Go.Vc

namespace Go.Vc
open Go Go.RowKit

/-- What an operation comes to that only computes. -/
def peel (P : Program) : Sem Next → Option Value
  | .pure (.value v) => some v
  | .program k => peel P (k P)
  | _ => none

theorem peel_run (P : Program) : ∀ (s : Sem Next) (v : Value) (w : World), peel P s = some v → s.run P w = .ok (.value v) w := by
  intro s
  induction s with
  | pure n => intro v w h; cases n <;> simp [peel] at h; subst h; rfl
  | program k ih => intro v w h; simp only [peel] at h; simpa [Sem.run] using ih P v w h
  | _ => intro v w h; simp [peel] at h

def aggOf (P : Program) (t : TypeId) : Option Bool :=
  match P.underlying t with
  | some (.struct _) => some true
  | some (.array _ _) => some true
  | some _ => some false
  | none => none
def sizeQ (P : Program) (t : TypeId) : Option Nat := (P.info? t).map (·.size)
def bytesQ (P : Program) (t : TypeId) : Option Nat := (P.info? t).map (·.bytes)
def zerosQ (P : Program) (t : TypeId) : Option (List Value) := ((P.info? t).bind (·.zero)).map (·.cells.toList)
def fieldQ (P : Program) (s : TypeId) (f : Nat) : Option Nat :=
  match P.underlying s with
  | some (.struct fs) =>
    match fs[f]? with
    | some fd => match sizeQ P fd.type with
      | some 0 => none
      | some _ => some fd.offset
      | none => none
    | none => none
  | _ => none
def elemQ (P : Program) (t : TypeId) : Option TypeId :=
  match P.underlying t with
  | some (.slice e) => some e
  | _ => none
def arrQ (P : Program) (t : TypeId) : Option (Nat × TypeId) :=
  match P.underlying t with
  | some (.array n e) => some (n, e)
  | _ => none

theorem run_sizeQ {P : Program} {t : TypeId} {n : Nat} (h : sizeQ P t = some n) (w : World) : (sizeOf t).run P w = .ok n w := by
  unfold sizeQ at h
  cases hi : P.info? t with
  | none => simp [hi] at h
  | some i => simp [hi] at h; simp [sizeOf, typeInfo, hi, h]
theorem run_aggOf {P : Program} {t : TypeId} {b : Bool} (h : aggOf P t = some b) (w : World) : (isAgg t).run P w = .ok b w := by
  unfold aggOf at h
  cases hu : P.underlying t with
  | none => simp [hu] at h
  | some d => cases d <;> simp [hu] at h <;> subst h <;> simp [isAgg, underlying, hu]
theorem run_zerosQ {P : Program} {t : TypeId} {l : List Value} (h : zerosQ P t = some l) (w : World) : ∃ z, (zeroValue t).run P w = .ok z w ∧ z.cells.toList = l := by
  unfold zerosQ at h
  cases hi : P.info? t with
  | none => simp [hi] at h
  | some i =>
    cases hz : i.zero with
    | none => simp [hi, hz] at h
    | some z => simp [hi, hz] at h; exact ⟨z, by simp [zeroValue, typeInfo, hi, hz], h⟩

def strQ (P : Program) (t : TypeId) : Bool :=
  match P.underlying t with
  | some .string => true
  | _ => false
def u8Q (P : Program) (t : TypeId) : Bool :=
  match P.underlying t with
  | some (.int .u8) => true
  | _ => false
def byteV (c : UInt8) : Value := .int .u8 (c.toNat : Int)

/-- How the values of a type are written: a Lean type and its values. -/
structure Shape where
  α : Type
  val : α → Value
abbrev Shapes := TypeId → Shape

/-- The cells of a symbolic value. -/
def cellsS : SV → List SV
  | .val v => v.cells.toList.map .val
  | s => [s]
def notAny : SV → Bool
  | .any => false
  | .tlst _ _ _ _ => false
  | _ => true
def goodS : SV → Bool
  | .val v => v.oneCell'
  | .any => false
  | .tlst _ _ _ _ => false
  | _ => true
def allVals : List SV → Option (List Value)
  | [] => some []
  | .val v :: l => match allVals l with | some vs => some (v :: vs) | none => none
  | .lit b :: l => match allVals l with | some vs => some (.bool b :: vs) | none => none
  | _ => none
def setL {α : Type} : List α → Nat → List α → List α
  | l, _, [] => l
  | l, off, v :: vs => setL (l.set off v) (off + 1) vs

/-- An operation's mark: the own block that it looks at; how it is treated; whether its answer is decided at once. -/
structure An where
  rt : Nat
  fl : Nat
  sp : Bool

def rho (ev : Operand → SV) (x : Operand) : Value := ((ev x).asVal).getD undef

def isSelect : Op → Bool
  | .select _ _ => true
  | _ => false

/-- The plain road: all operands are values. -/
def gen (P : Program) (fl : Nat) (o : Oper) (ev : Operand → SV) (k : SV → Prop) : Prop :=
  match isSelect o.op, o.op.operands.toList.all (fun x => (ev x).asVal.isSome), fl with
  | false, true, 0 => match peel P (execOp (rho ev) o) with | some v => k (.val v) | none => False
  | false, true, _ + 1 => ∃ v, (∀ w, (execOp (rho ev) o).run P w = .ok (.value v) w) ∧ k (.val v)
  | _, _, _ => False

/-- A part of what a call has handed over. -/
def exS (i : Nat) : SV → Option SV
  | .tlst id n cap rest => match i with
    | 0 => some (.lst id n cap)
    | j + 1 => (rest[j]?).map .val
  | _ => none

/-- A value taken over as it is -/
def coreMove (P : Program) (Shp : Shapes) (V : View) (rt : Nat) (o : Oper) (ev : Operand → SV) (blk : Option (Option OB)) (k : SV → Option OB → Prop) : Prop :=
  match o.op with
  | .move x | .assign x => match blk with | some b => k (ev x) b | none => False
  | .pick c a b => match blk, ev c with
    | some bl, .lit true => k (ev a) bl
    | some bl, .lit false => k (ev b) bl
    | _, _ => False
  | .extract x i => match blk, exS i (ev x) with
    | some bl, some s => k s bl
    | _, _ => False
  | _ => False

/-- A new block of the call's own -/
def coreNew (P : Program) (Shp : Shapes) (V : View) (rt : Nat) (o : Oper) (ev : Operand → SV) (blk : Option (Option OB)) (k : SV → Option OB → Prop) : Prop :=
  match o.op, blk with
  | .alloc t, some none => match zerosQ P t with | some zs => k (.own rt 0) (some ⟨t, .fixed (zs.map .val)⟩) | none => False
  | .box t x, some none => match notAny (ev x) with | true => k (.own rt 0) (some ⟨t, .fixed (cellsS (ev x))⟩) | false => False
  | .makeSlice t n c, some none =>
    match elemQ P t, ev n, ev c with
    | some e, .val (.int _ ln), .val (.int _ cp) =>
      match zerosQ P e, sizeQ P e, bytesQ P e with
      | some zs, some sz, some bs => (0 ≤ ln ∧ ln ≤ cp ∧ (bs : Int) * cp ≤ 281474976710656 ∧ cp ≤ 9223372036854775807) ∧
        (match Nat.beq zs.length sz with
         | true => k (.osl rt 0 ln.toNat cp.toNat) (some ⟨e, .dyn (List.replicate cp.toNat zs).flatten⟩)
         | false => False)
      | _, _, _ => False
    | _, _, _ => False
  | _, _ => False

/-- A load out of a block of the call's own -/
def coreLoad (P : Program) (Shp : Shapes) (V : View) (rt : Nat) (o : Oper) (ev : Operand → SV) (blk : Option (Option OB)) (k : SV → Option OB → Prop) : Prop :=
  match o.op, blk with
  | .load t p, some (some ob) =>
    match ev p with
    | .own id off =>
      match Nat.beq id rt, aggOf P t, sizeQ P t, ob.cs with
      | true, some true, some n, .fixed l => match allVals ((l.drop off).take n), Nat.ble (off + n) l.length with
        | some vs, true => k (.val (.agg vs.toArray)) (some ob)
        | _, _ => False
      | true, some false, _, .fixed l => match l[off]? with | some s => k s (some ob) | none => False
      | true, some false, _, .dyn l => ∃ x : (Shp t).α, l[off]? = some ((Shp t).val x) ∧ k (.val ((Shp t).val x)) (some ob)
      | true, some true, some n, .dyn l => ∃ x : (Shp t).α, (l.drop off).take n = ((Shp t).val x).cells.toList ∧
        (match (Shp t).val x with
         | .agg cs => match Nat.beq cs.size n with | true => k (.val (.agg cs)) (some ob) | false => False
         | _ => False)
      | _, _, _, _ => False
    | _ => False
  | _, _ => False

/-- A load out of known memory -/
def coreSee (P : Program) (Shp : Shapes) (V : View) (rt : Nat) (o : Oper) (ev : Operand → SV) (blk : Option (Option OB)) (k : SV → Option OB → Prop) : Prop :=
  match o.op, blk with
  | .load t p, some b =>
    match ev p with
    | .val (.pointer pa) =>
      match aggOf P t, sizeQ P t with
      | some true, some n => ∃ x : (Shp t).α, V.has pa ((Shp t).val x).cells.toList ∧ pa.isSome = true ∧
        (match (Shp t).val x with
         | .agg cs => match Nat.beq cs.size n with | true => k (.val (.agg cs)) b | false => False
         | _ => False)
      | some false, _ => ∃ x : (Shp t).α, V.load pa = some ((Shp t).val x) ∧ k (.val ((Shp t).val x)) b
      | _, _ => False
    | _ => False
  | .convert src dst x, some b =>
    match ev x, elemQ P src, strQ P dst with
    | .val (.slice a len _), some e, true => match u8Q P e with
      | true => ∃ bs : List UInt8, V.has a (bs.map byteV) ∧ bs.length = len ∧ a.isSome = true ∧ k (.val (.string ⟨bs.toArray⟩)) b
      | false => False
    | _, _, _ => False
  | _, _ => False

/-- A store into a block of the call's own -/
def coreStore (P : Program) (Shp : Shapes) (V : View) (rt : Nat) (o : Oper) (ev : Operand → SV) (blk : Option (Option OB)) (k : SV → Option OB → Prop) : Prop :=
  match o.op, blk with
  | .store t p x, some (some ob) =>
    match ev p, sizeQ P t with
    | .own id off, some n =>
      match Nat.beq id rt, ob.cs with
      | true, .fixed l =>
        match (cellsS (ev x)).all goodS, Nat.beq (cellsS (ev x)).length n, Nat.ble (off + n) l.length with
        | true, true, true => k .any (some ⟨ob.ty, .fixed (setL l off (cellsS (ev x)))⟩)
        | _, _, _ => False
      | true, .dyn l =>
        match (cellsS (ev x)).all goodS, Nat.beq (cellsS (ev x)).length n, allVals (cellsS (ev x)) with
        | true, true, some vs => off + n ≤ l.length ∧ k .any (some ⟨ob.ty, .dyn (setL l off vs)⟩)
        | _, _, _ => False
      | _, _ => False
    | _, _ => False
  | _, _ => False

/-- A place in a block of the call's own -/
def corePlace (P : Program) (Shp : Shapes) (V : View) (rt : Nat) (o : Oper) (ev : Operand → SV) (blk : Option (Option OB)) (k : SV → Option OB → Prop) : Prop :=
  match o.op, blk with
  | .fieldAddr s p f, some b =>
    match ev p, fieldQ P s f with
    | .own id off, some d => k (.own id (off + d)) b
    | _, _ => False
  | .indexAddr t x i, some b =>
    match ev x, ev i with
    | .osl id off len _, .val (.int _ n) =>
      match elemQ P t with
      | some e => match sizeQ P e with
        | some sz => (0 ≤ n ∧ n < len) ∧ k (.own id (off + n.toNat * sz)) b
        | none => False
      | none => False
    | .own id off, .val (.int _ n) =>
      match arrQ P t with
      | some (len, e) => match sizeQ P e with
        | some sz => (0 ≤ n ∧ n < len) ∧ k (.own id (off + n.toNat * sz)) b
        | none => False
      | none => False
    | .val (.slice a len _), .val (.int _ n) =>
      match elemQ P t with
      | some e => match sizeQ P e with
        | some sz => (0 ≤ n ∧ n < len ∧ a.isSome = true) ∧ k (.val (.pointer (a.map (·.add (n.toNat * sz))))) b
        | none => False
      | none => False
    | _, _ => False
  | .slice t x lo hi mx, some b =>
    match elemQ P t, mx with
    | some e, none =>
      match sizeQ P e, ev x, (match lo with | none => some (0 : Int) | some l => match ev l with | .val (.int _ n) => some n | _ => none) with
      | some sz, .osl id off len cap, some l =>
        match (match hi with | none => some (len : Int) | some h => match ev h with | .val (.int _ n) => some n | _ => none) with
        | some h => (0 ≤ l ∧ l ≤ h ∧ h ≤ cap ∧ l < cap) ∧ k (.osl id (off + l.toNat * sz) (h.toNat - l.toNat) (cap - l.toNat)) b
        | none => False
      | some sz, .val (.slice a len cap), some l =>
        match (match hi with | none => some (len : Int) | some h => match ev h with | .val (.int _ n) => some n | _ => none) with
        | some h => (0 ≤ l ∧ l ≤ h ∧ h ≤ cap) ∧ k (.val (.slice (if cap = l.toNat then a else a.map (·.add (l.toNat * sz))) (h.toNat - l.toNat) (cap - l.toNat))) b
        | none => False
      | _, _, _ => False
    | _, _ => False
  | .call c, some b =>
    match c.callee, c.args.toList, c.argTypes.toList with
    | .builtin .len, [x], [t] => match ev x, elemQ P t with
      | .osl _ _ len _, some _ => k (.val (.int .i64 len)) b
      | _, _ => False
    | _, _, _ => False
  | .makeFunc (.func f) first caps, some b =>
    match first.toList, caps.toList with
    | [], [p] => match ev p with
      | .own id 0 => k (.clo f [id]) b
      | _ => False
    | _, _ => False
  | _, _ => False

/-- A byte of a string. -/
def strAt (s : ByteArray) (n : Nat) : Int := ((s.data.toList.getD n 0).toNat : Int)

def resTypes (P : Program) (f : FuncId) : List TypeId :=
  match P.funcs[f]? with
  | some fn => fn.resultTypes.toList
  | none => []

def argVals (ev : Operand → SV) : List Operand → Option (List Value)
  | [] => some []
  | x :: l => match (ev x).asVal, argVals ev l with
    | some v, some vs => some (v :: vs)
    | _, _ => none

/-- What a function without a Go body comes to. -/
def ExtVal (P : Program) (f : FuncId) (args : Array Value) (v : Value) : Prop := ∀ w, (callFunc f args).run P w = .ok (.value v) w
/-- What '==' comes to. -/
def EqAt (P : Program) (t : TypeId) (x y : Value) (b : Bool) : Prop := ∀ w, (binOp .eql t x y).run P w = .ok (.bool b) w
def fmax (k : FloatKind) (x y : Nat) : Nat :=
  match k.format.order x y with
  | some .lt => y
  | some .gt => x
  | _ => if (k.decode x).neg then y else x
def fmin (k : FloatKind) (x y : Nat) : Nat :=
  match k.format.order x y with
  | some .lt => x
  | some .gt => y
  | _ => if (k.decode x).neg then x else y

/-- Operations that ask something of their operands. -/
def coreMore (P : Program) (Shp : Shapes) (_V : View) (_rt : Nat) (o : Oper) (ev : Operand → SV) (blk : Option (Option OB)) (k : SV → Option OB → Prop) : Prop :=
  match blk with
  | none => False
  | some b =>
    match o.op with
    | .binOp op t x y _ =>
      match op, ev x, ev y with
      | .shl, .val (.int kk a), .val (.int _ c) => 0 ≤ c ∧ k (.val (.int kk (kk.wrap (a * 2 ^ min c.toNat kk.bits)))) b
      | .shr, .val (.int kk a), .val (.int _ c) => 0 ≤ c ∧ k (.val (.int kk (a.fdiv (2 ^ min c.toNat kk.bits)))) b
      | .quo, .val (.int kk a), .val (.int k' c) => match decide (kk = k') with
        | true => c ≠ 0 ∧ k (.val (.int kk (kk.wrap (a.tdiv c)))) b
        | false => False
      | .rem, .val (.int kk a), .val (.int k' c) => match decide (kk = k') with
        | true => c ≠ 0 ∧ k (.val (.int kk (a.tmod c))) b
        | false => False
      | .add, .val (.string s), .val (.string u) => ((s.size + u.size : Nat) : Int) ≤ IntKind.i64.max ∧ k (.val (.string (s ++ u))) b
      | .eql, .val (.agg s), .val (.agg u) => match P.eqGuardType P.depth t with
        | false => ∃ c : Bool, EqAt P t (.agg s) (.agg u) c ∧ k (.val (.bool c)) b
        | true => False
      | .eql, .val (.slice s _ _), .val (.slice none _ _) => match elemQ P t with
        | some _ => True ∧ k (.val (.bool s.isNone)) b
        | none => False
      | _, _, _ => False
    | .call c =>
      match c.callee, c.args.toList with
      | .builtin .max, [x, y] => match ev x, ev y with
        | .val (.float kk a), .val (.float _ c) => (kk.format.order a c).isSome = true ∧ k (.val (.float kk (fmax kk a c))) b
        | _, _ => False
      | .builtin .min, [x, y] => match ev x, ev y with
        | .val (.float kk a), .val (.float _ c) => (kk.format.order a c).isSome = true ∧ k (.val (.float kk (fmin kk a c))) b
        | _, _ => False
      | .value (.func f), l => match argVals ev l, resTypes P f with
        | some vs, [t] => ∃ x : (Shp t).α, ExtVal P f vs.toArray ((Shp t).val x) ∧ k (.val ((Shp t).val x)) b
        | _, _ => False
      | _, _ => False
    | .index t x i =>
      match strQ P t, ev x, ev i with
      | true, .val (.string s), .val (.int _ n) => (0 ≤ n ∧ n < s.size) ∧ k (.val (.int .u8 (strAt s n.toNat))) b
      | _, _, _ => False
    | .slice t x lo hi (some mx) =>
      match elemQ P t, ev x, (match lo with | none => some (0 : Int) | some l => match ev l with | .val (.int _ n) => some n | _ => none), (match hi with | none => none | some h => match ev h with | .val (.int _ n) => some n | _ => none), ev mx with
      | some e, .val (.slice a _ cap), some l, some h, .val (.int _ m) =>
        match sizeQ P e with
        | some sz => (0 ≤ l ∧ l ≤ h ∧ h ≤ m ∧ m ≤ cap) ∧ k (.val (.slice (if m.toNat = l.toNat then a else a.map (·.add (l.toNat * sz))) (h.toNat - l.toNat) (m.toNat - l.toNat))) b
        | none => False
      | _, _, _, _, _ => False
    | _ => False

/-- 'copy' into a slice of the call's own, out of known memory. -/
def coreCopy (P : Program) (_Shp : Shapes) (V : View) (rt : Nat) (o : Oper) (ev : Operand → SV) (blk : Option (Option OB)) (k : SV → Option OB → Prop) : Prop :=
  match o.op, blk with
  | .call c, some (some ob) =>
    match c.callee, c.args.toList, c.argTypes.toList with
    | .builtin .copy, [x, y], [t, _] =>
      match ev x, ev y, elemQ P t, ob.cs with
      | .osl id off len _, .val (.slice a n _), some e, .dyn l =>
        match Nat.beq id rt, sizeQ P e with
        | true, some sz => ∃ vs : List Value, View.has V a vs ∧ vs.length = min n len * sz ∧ (vs = [] ∨ a.isSome = true) ∧ (∀ v ∈ vs, v.oneCell' = true) ∧ off + vs.length ≤ l.length ∧
          k (.val (.int .i64 (min n len : Nat))) (some ⟨ob.ty, .dyn (setL l off vs)⟩)
        | _, _ => False
      | _, _, _, _ => False
    | _, _, _ => False
  | _, _ => False

/-- What an operation that calls nothing asks, and what it hands on. 'blk': the own block 'an.rt' as it stands. -/
def coreT (P : Program) (Shp : Shapes) (V : View) (an : An) (o : Oper) (ev : Operand → SV) (blk : Option (Option OB)) (k : SV → Option OB → Prop) : Prop :=
  match an.fl with
  | 2 => coreMove P Shp V an.rt o ev blk k
  | 3 => coreNew P Shp V an.rt o ev blk k
  | 4 => coreLoad P Shp V an.rt o ev blk k
  | 5 => coreSee P Shp V an.rt o ev blk k
  | 6 => coreStore P Shp V an.rt o ev blk k
  | 7 => corePlace P Shp V an.rt o ev blk k
  | 12 => coreMore P Shp V an.rt o ev blk k
  | 16 => coreCopy P Shp V an.rt o ev blk k
  | 8 => match blk with | some b => gen P 1 o ev (fun s => k s b) | none => False
  | _ => match blk with | some b => gen P 0 o ev (fun s => k s b) | none => False

end Go.Vc

namespace Go.Vc
open Go Go.RowKit

def St.setOwn (σ : St) (id : Nat) (ob : Option OB) : St := { σ with own := σ.own.set id ob }

theorem setOwn_self {σ : St} {rt : Nat} {b : Option OB} (h : σ.own[rt]? = some b) : σ.setOwn rt b = σ := by
  unfold St.setOwn
  congr 1
  apply List.ext_getElem?
  intro i
  rw [List.getElem?_set]
  split
  · rename_i e; subst e
    split
    · exact h.symm
    · rename_i hlt; rw [List.getElem?_eq_none (by omega)]
  · rfl

theorem getD_of {σ : St} {rt : Nat} {b : Option OB} (h : σ.own[rt]? = some b) : σ.own.getD rt none = b := by simp [List.getD, h]

theorem made_flatten_list (z : Array Value) (c : Nat) : (madeCells z (c * z.toList.length)).toList = (List.replicate c z.toList).flatten := by
  have hz : z.toList.length = z.size := Array.length_toList
  induction c with
  | zero => simp [madeCells]
  | succ c ih =>
    rw [List.replicate_succ, List.flatten_cons, ← ih]
    apply List.ext_getElem?
    intro j
    simp only [madeCells, Array.toList_map, Array.toList_range, List.getElem?_map, List.getElem?_append, hz]
    by_cases hj : j < z.size
    · have hj2 : j < (c + 1) * z.size := by rw [Nat.succ_mul]; omega
      simp [List.getElem?_range, hj, hj2, Nat.mod_eq_of_lt hj]
    · simp only [hj, if_false]
      have hz0 : 0 < z.size ∨ z.size = 0 := by omega
      rcases hz0 with hz0 | hz0
      · have e : j % z.size = (j - z.size) % z.size := by rw [Nat.mod_eq_sub_mod (by omega)]
        by_cases hj2 : j < (c + 1) * z.size
        · have hj3 : j - z.size < c * z.size := by rw [Nat.succ_mul] at hj2; omega
          simp [List.getElem?_range, hj2, hj3, e]
        · have hj3 : ¬ j - z.size < c * z.size := by rw [Nat.succ_mul] at hj2; omega
          rw [List.getElem?_eq_none (by simp; omega), List.getElem?_eq_none (by simp; omega)]
      · simp [hz0]

theorem made_flatten (z : Array Value) (c : Nat) : madeCells z (c * z.toList.length) = ((List.replicate c z.toList).flatten).toArray := by
  apply Array.ext'
  rw [made_flatten_list]

/-- What an operation comes to in the run. -/
def Does (P : Program) (o : Oper) (B : List (Nat × Nat)) (w0 : Base) (V : View) (a : Act) (w : World) (σ' : St) (s : SV) : Prop :=
  ∃ x nx w' addr', (execOp a.eval o).run P w = .ok nx w' ∧ (nx = .value x ∨ (nx = .skip ∧ x = undef)) ∧ Conc B w0 σ' V a w' addr' ∧ Rel addr' σ'.own s x

theorem execOp_rho {σ : St} {addr own} {a : Act} {o : Oper} (hs : isSelect o.op = false)
    (hall : o.op.operands.toList.all (fun x => (σ.ev x).asVal.isSome) = true) (hev : ∀ x, Rel addr own (σ.ev x) (a.eval x)) :
    execOp a.eval o = execOp (rho σ.ev) o := by
  refine execOp_congr o ?_ ?_
  · intro cs b e; rw [e] at hs; simp [isSelect] at hs
  · intro x hx
    have := List.all_eq_true.1 hall x (by simpa using hx)
    cases hv : (σ.ev x).asVal with
    | none => simp [hv] at this
    | some v => rw [(hev x).asVal hv]; simp [rho, hv]

theorem gen_sound {P : Program} {fl : Nat} {o : Oper} {B w0 σ V a w addr} {k : SV → Prop} (hc : Conc B w0 σ V a w addr)
    (h : gen P fl o σ.ev k) : ∃ s, k s ∧ Does P o B w0 V a w σ s := by
  unfold gen at h
  split at h
  · rename_i hs hall
    split at h
    · rename_i v hv
      refine ⟨_, h, v, _, w, addr, ?_, .inl rfl, hc, rfl⟩
      rw [execOp_rho hs hall hc.eval]
      exact peel_run P _ _ w hv
    · exact h.elim
  · rename_i hs hall
    obtain ⟨v, hv, hk⟩ := h
    refine ⟨_, hk, v, _, w, addr, ?_, .inl rfl, hc, rfl⟩
    rw [execOp_rho hs hall hc.eval]
    exact hv w
  · exact h.elim

/-- A new block of the call's own. -/
theorem Conc.newBlk {B w0 σ V a w addr} (hc : Conc B w0 σ V a w addr) {rt : Nat} (hrt : σ.own[rt]? = some none) (ob : OB) (arr : Array Value)
    (hb : BlkAt addr σ.own ob.cs arr) :
    Conc B w0 (σ.setOwn rt (some ob)) V a (w.alloc (.cells arr ob.ty)) (fun i => if i = rt then w.heap.size else addr i) ∧
    (∀ id, kind (σ.own.getD id none) ≠ 0 → kind ((σ.setOwn rt (some ob)).own.getD id none) = kind (σ.own.getD id none) ∧ (if id = rt then w.heap.size else addr id) = addr id) := by
  have hlt : rt < σ.own.length := by
    rcases Nat.lt_or_ge rt σ.own.length with h | h
    · exact h
    · rw [List.getElem?_eq_none h] at hrt; simp at hrt
  have hne : ∀ id ob', σ.own.getD id none = some ob' → id ≠ rt := by
    rintro id ob' h rfl; simp [List.getD, hrt] at h
  have hget : ∀ id, (σ.setOwn rt (some ob)).own.getD id none = if id = rt then some ob else σ.own.getD id none := by
    intro id
    simp only [St.setOwn, List.getD, List.getElem?_set]
    by_cases e : rt = id
    · subst e; simp [hlt]
    · have e' : ¬ id = rt := fun x => e x.symm
      simp [e, e']
  have hmono : ∀ id, kind (σ.own.getD id none) ≠ 0 → kind ((σ.setOwn rt (some ob)).own.getD id none) = kind (σ.own.getD id none) ∧ (if id = rt then w.heap.size else addr id) = addr id := by
    intro id h
    have hs : ∃ ob', σ.own.getD id none = some ob' := by
      cases e : σ.own.getD id none with
      | none => rw [e] at h; exact absurd rfl h
      | some ob' => exact ⟨ob', rfl⟩
    obtain ⟨ob', h'⟩ := hs
    have := hne _ _ h'
    rw [hget, if_neg this, if_neg this]
    exact ⟨rfl, rfl⟩
  have hltw : ∀ id ob', σ.own.getD id none = some ob' → ob'.cs.real → addr id < w.heap.size := by
    intro id ob' h hre
    obtain ⟨arr', hw, _⟩ := hc.blk id ob' h hre
    rcases Nat.lt_or_ge (addr id) w.heap.size with h | h
    · exact h
    · rw [Array.getElem?_eq_none h] at hw; simp at hw
  refine ⟨⟨hc.size, by simp [St.setOwn, hc.osize], fun i hi => Rel.own_mono hmono (hc.rel i hi), hc.defers, ?_, ?_, ?_, ?_, ?_, ?_, ?_, hc.fresh⟩, hmono⟩
  · intro id ob' h hre
    rw [hget] at h
    split at h
    · rename_i e; cases h
      exact ⟨arr, by simp only [e, if_true]; exact heap_alloc_new _ _, BlkAt.own_mono hmono hb⟩
    · rename_i e
      obtain ⟨arr', hw, hb'⟩ := hc.blk id ob' h hre
      have := hltw _ _ h hre
      exact ⟨arr', by simp only [e, if_false]; rw [heap_alloc_old _ _ _ this]; exact hw, BlkAt.own_mono hmono hb'⟩
  · intro id ob' h hre
    rw [hget] at h
    split at h
    · rename_i e; simp only [e, if_true]; exact .inl hc.below.size
    · rename_i e; simp only [e, if_false]; exact hc.lo id ob' h hre
  · intro p hp
    obtain ⟨h1, h2⟩ := hc.lent p hp
    have := hmono p.1 (by omega)
    exact ⟨by rw [← h1]; exact this.2, by rw [this.1]; exact h2⟩
  · intro id ob' h hre
    rw [hget] at h
    split at h
    · rename_i e; simp only [e, if_true]
      cases hv : V w.heap.size with
      | none => rfl
      | some cs => obtain ⟨T, fr, hw⟩ := hc.vin _ _ hv; simp at hw
    · rename_i e; simp only [e, if_false]; exact hc.out id ob' h hre
  · intro id id' ob1 ob2 h1 h2 hr1 hr2 he
    rw [hget] at h1 h2
    by_cases e1 : id = rt <;> by_cases e2 : id' = rt
    · exact e1.trans e2.symm
    · simp only [e1, e2, if_true, if_false] at he h2
      have := hltw _ _ h2 hr2; omega
    · simp only [e1, e2, if_true, if_false] at he h1
      have := hltw _ _ h1 hr1; omega
    · simp only [e1, e2, if_false] at he h1 h2
      exact hc.inj _ _ _ _ h1 h2 hr1 hr2 he
  · intro b cs hb'
    obtain ⟨T, fr, hw⟩ := hc.vin b cs hb'
    refine ⟨T, fr, ?_⟩
    have : b < w.heap.size := by
      rcases Nat.lt_or_ge b w.heap.size with h | h
      · exact h
      · rw [Array.getElem?_eq_none h] at hw; simp at hw
    rw [heap_alloc_old _ _ _ this]; exact hw
  · exact hc.below.alloc _

/-- A block of the call's own is written. -/
theorem Conc.wrBlk {B w0 σ V a w addr} (hc : Conc B w0 σ V a w addr) {rt : Nat} {ob : OB} (hrt : σ.own[rt]? = some (some ob)) (hre0 : ob.cs.real) (cs : Cs) (hkd : kind (some ⟨ob.ty, cs⟩) = kind (some ob)) (arr : Array Value)
    (hb : BlkAt addr σ.own cs arr) :
    Conc B w0 (σ.setOwn rt (some ⟨ob.ty, cs⟩)) V a (w.setRow (addr rt) arr) addr := by
  have hlt : rt < σ.own.length := by
    rcases Nat.lt_or_ge rt σ.own.length with h | h
    · exact h
    · rw [List.getElem?_eq_none h] at hrt; simp at hrt
  have hg := getD_of hrt
  have hget : ∀ id, (σ.setOwn rt (some ⟨ob.ty, cs⟩)).own.getD id none = if id = rt then some ⟨ob.ty, cs⟩ else σ.own.getD id none := by
    intro id
    simp only [St.setOwn, List.getD, List.getElem?_set]
    by_cases e : rt = id
    · subst e; simp [hlt]
    · have e' : ¬ id = rt := fun x => e x.symm
      simp [e, e']
  have hmono : ∀ id, kind (σ.own.getD id none) ≠ 0 → kind ((σ.setOwn rt (some ⟨ob.ty, cs⟩)).own.getD id none) = kind (σ.own.getD id none) ∧ addr id = addr id := by
    intro id h
    rw [hget]; split
    · rename_i e; subst e; rw [hg]; exact ⟨hkd, rfl⟩
    · exact ⟨rfl, rfl⟩
  have hsome : ∀ id ob', (σ.setOwn rt (some ⟨ob.ty, cs⟩)).own.getD id none = some ob' → ob'.cs.real → ∃ ob'', σ.own.getD id none = some ob'' ∧ ob''.cs.real := by
    intro id ob' h hre
    rw [hget] at h
    split at h
    · rename_i e; exact ⟨ob, e ▸ hg, hre0⟩
    · exact ⟨_, h, hre⟩
  obtain ⟨arr0, hw0, _⟩ := hc.blk rt ob hg hre0
  refine ⟨hc.size, by simp [St.setOwn, hc.osize], fun i hi => Rel.own_mono hmono (hc.rel i hi), hc.defers, ?_, ?_, ?_, ?_, ?_, ?_, ?_, hc.fresh⟩
  · intro id ob' h hre
    rw [hget] at h
    split at h
    · rename_i e; cases h; subst e
      exact ⟨arr, setRow_heap w _ arr0 arr _ _ hw0, BlkAt.own_mono hmono hb⟩
    · rename_i e
      obtain ⟨arr', hw, hb'⟩ := hc.blk id ob' h hre
      refine ⟨arr', ?_, BlkAt.own_mono hmono hb'⟩
      rw [setRow_other]
      · exact hw
      · intro he; exact e (hc.inj _ _ _ _ h hg hre hre0 he)
  · intro id ob' h hre
    obtain ⟨ob'', h'', hre''⟩ := hsome _ _ h hre
    exact hc.lo id ob'' h'' hre''
  · intro p hp
    obtain ⟨h1, h2⟩ := hc.lent p hp
    exact ⟨h1, by rw [(hmono _ (by omega)).1]; exact h2⟩
  · intro id ob' h hre
    obtain ⟨ob'', h'', hre''⟩ := hsome _ _ h hre
    exact hc.out id ob'' h'' hre''
  · intro id id' ob1 ob2 h1 h2 hr1 hr2 he
    obtain ⟨_, h1', hr1'⟩ := hsome _ _ h1 hr1
    obtain ⟨_, h2', hr2'⟩ := hsome _ _ h2 hr2
    exact hc.inj _ _ _ _ h1' h2' hr1' hr2' he
  · intro b cs' hb'
    obtain ⟨T, fr, hw⟩ := hc.vin b cs' hb'
    refine ⟨T, fr, ?_⟩
    rw [setRow_other]
    · exact hw
    · rintro rfl
      have := hc.out rt ob hg hre0
      rw [this] at hb'; simp at hb'
  · have hb := hc.below
    refine ⟨hb.os, hb.tape, hb.output, by simpa using hb.size, fun k hk hn => ?_⟩
    rw [setRow_other]
    · exact hb.block k hk hn
    · rintro rfl
      rcases hc.lo rt ob hg hre0 with h | h
      · omega
      · exact hn h

/-- One operation's cases. -/
theorem new_sound {P : Program} {Shp V rt o B w0 σ a w addr k} (hc : Conc B w0 σ V a w addr)
    (h : coreNew P Shp V rt o σ.ev σ.own[rt]? k) : ∃ s ob, k s ob ∧ Does P o B w0 V a w (σ.setOwn rt ob) s := by
  unfold coreNew at h
  split at h
  · rename_i t hop hblk
    split at h
    · rename_i zs hzs
      obtain ⟨z, hz, hzl⟩ := run_zerosQ hzs w
      have hb : BlkAt addr σ.own (.fixed (zs.map .val)) z.cells := by
        subst hzl
        refine ⟨by simp, fun i hi => ?_⟩
        simp only [List.length_map, Array.length_toList] at hi
        simp [List.getD, Rel, hi, Array.getD_eq_getD_getElem?]
      obtain ⟨hc', _⟩ := hc.newBlk hblk ⟨t, .fixed (zs.map .val)⟩ z.cells hb
      refine ⟨_, _, h, .pointer (some ⟨w.heap.size, 0, none⟩), _, _, _, ?_, .inl rfl, hc', ?_⟩
      · simp only [execOp, hop, Instr.alloc, Sem.run_bind, hz, Result.andThen_ok, newVar, newRow, run_newObj, Sem.run_pure, World.alloc_eq]
      · simp only [Rel, St.setOwn, List.getD, List.getElem?_set, if_true]
        have hlt : rt < σ.own.length := by
          rcases Nat.lt_or_ge rt σ.own.length with h | h
          · exact h
          · rw [List.getElem?_eq_none h] at hblk; simp at hblk
        simp [hlt]
    · exact h.elim
  · rename_i t x hop hblk
    split at h
    · rename_i hx
      have hr := hc.eval x
      have hb : BlkAt addr σ.own (.fixed (cellsS (σ.ev x))) (a.eval x).cells := by
        generalize σ.ev x = s at *
        generalize a.eval x = y at *
        cases s with
        | val v =>
          simp only [Rel] at hr; subst hr
          refine ⟨by simp [cellsS], fun i hi => ?_⟩
          simp only [cellsS, List.length_map, Array.length_toList] at hi
          simp [cellsS, List.getD, Rel, hi, Array.getD_eq_getD_getElem?]
        | any => simp [notAny] at hx
        | tlst _ _ _ _ => simp [notAny] at hx
        | lit b => simp only [Rel] at hr; subst hr; refine ⟨by simp [cellsS, Value.cells], fun i hi => ?_⟩; simp [cellsS] at hi; subst hi; simp [cellsS, Value.cells, Rel]
        | own id off =>
          have hr' := hr
          simp only [Rel] at hr; rw [hr.2]; refine ⟨by simp [cellsS, Value.cells], fun i hi => ?_⟩; simp [cellsS] at hi; subst hi; rw [hr.2] at hr'; simpa [cellsS, Value.cells] using hr'
        | osl id off len cap =>
          have hr' := hr
          simp only [Rel] at hr; rw [hr.2]; refine ⟨by simp [cellsS, Value.cells], fun i hi => ?_⟩; simp [cellsS] at hi; subst hi; rw [hr.2] at hr'; simpa [cellsS, Value.cells] using hr'
        | clo f ids =>
          have hr' := hr
          simp only [Rel] at hr; rw [hr.2]; refine ⟨by simp [cellsS, Value.cells], fun i hi => ?_⟩; simp [cellsS] at hi; subst hi; rw [hr.2] at hr'; simpa [cellsS, Value.cells] using hr'
        | lst id n cap =>
          have hr' := hr
          simp only [Rel] at hr; rw [hr.2]; refine ⟨by simp [cellsS, Value.cells], fun i hi => ?_⟩; simp [cellsS] at hi; subst hi; rw [hr.2] at hr'; simpa [cellsS, Value.cells] using hr'
      obtain ⟨hc', _⟩ := hc.newBlk hblk ⟨t, .fixed (cellsS (σ.ev x))⟩ _ hb
      refine ⟨_, _, h, .pointer (some ⟨w.heap.size, 0, none⟩), _, _, _, ?_, .inl rfl, hc', ?_⟩
      · simp only [execOp, hop, Instr.box, Sem.run_bind, Result.andThen_ok, newVar, newRow, run_newObj, Sem.run_pure, World.alloc_eq]
      · simp only [Rel, St.setOwn, List.getD, List.getElem?_set, if_true]
        have hlt : rt < σ.own.length := by
          rcases Nat.lt_or_ge rt σ.own.length with h | h
          · exact h
          · rw [List.getElem?_eq_none h] at hblk; simp at hblk
        simp [hlt]
    · exact h.elim
  · rename_i t n c hop hblk
    split at h
    · rename_i e kn ln kc cp he hn hcp
      split at h
      · rename_i zs sz bs hzs hsz hbs
        obtain ⟨⟨h0, h1, h2, h3⟩, h⟩ := h
        split at h
        · rename_i hlen
          have hlen : zs.length = sz := Nat.eq_of_beq_eq_true hlen
          have ht : P.underlying t = some (.slice e) := by
            unfold elemQ at he; split at he <;> simp_all
          unfold zerosQ at hzs
          cases hi : P.info? e with
          | none => simp [hi] at hzs
          | some i =>
            cases hz : i.zero with
            | none => simp [hi, hz] at hzs
            | some z =>
              simp only [hi, hz, Option.bind_some, Option.map_some, Option.some.injEq] at hzs
              simp only [sizeQ, hi, Option.map_some, Option.some.injEq] at hsz
              simp only [bytesQ, hi, Option.map_some, Option.some.injEq] at hbs
              subst hsz; subst hbs; subst hzs
              have hrn := hc.eval n
              have hrc := hc.eval c
              rw [hn] at hrn; rw [hcp] at hrc
              simp only [Rel] at hrn hrc
              have hrun := run_make (P := P) w t e i z ht hi hz kn kc ln cp h0 h1 h2 h3
              have hb : BlkAt addr σ.own (.dyn (List.replicate cp.toNat z.cells.toList).flatten) (madeCells z.cells (cp.toNat * i.size)) := by
                simp only [BlkAt]
                rw [← hlen]
                exact made_flatten _ _
              obtain ⟨hc', _⟩ := hc.newBlk hblk ⟨e, .dyn (List.replicate cp.toNat z.cells.toList).flatten⟩ _ hb
              refine ⟨_, _, h, .slice (some ⟨w.heap.size, 0, none⟩) ln.toNat cp.toNat, _, _, _, ?_, .inl rfl, hc', ?_⟩
              · simp only [execOp, hop, hrn, hrc, Sem.run_bind, hrun, Result.andThen_ok, Sem.run_pure]
              · simp only [Rel, St.setOwn, List.getD, List.getElem?_set, if_true]
                have hlt : rt < σ.own.length := by
                  rcases Nat.lt_or_ge rt σ.own.length with h | h
                  · exact h
                  · rw [List.getElem?_eq_none h] at hblk; simp at hblk
                simp [hlt]
        · exact h.elim
      · exact h.elim
    · exact h.elim
  · exact h.elim

theorem exS_rel {addr own} {i : Nat} {s s' : SV} {x : Value} (h : exS i s = some s') (hr : Rel addr own s x) : ∃ vs v, x = .tuple vs ∧ vs[i]? = some v ∧ Rel addr own s' v := by
  unfold exS at h
  split at h
  · rename_i id n cap rest
    obtain ⟨hk, hx⟩ := hr
    split at h
    · cases h
      exact ⟨_, _, hx, by simp, hk, rfl⟩
    · rename_i j
      obtain ⟨v, hv, rfl⟩ := Option.map_eq_some_iff.1 h
      exact ⟨_, v, hx, by simpa using hv, rfl⟩
  · simp at h

theorem move_sound {P : Program} {Shp V rt o B w0 σ a w addr k} (hc : Conc B w0 σ V a w addr)
    (h : coreMove P Shp V rt o σ.ev σ.own[rt]? k) : ∃ s ob, k s ob ∧ Does P o B w0 V a w (σ.setOwn rt ob) s := by
  unfold coreMove at h
  split at h
  · rename_i x hop
    split at h
    · rename_i b hb
      refine ⟨_, _, h, a.eval x, _, w, addr, ?_, .inl rfl, ?_, ?_⟩
      · simp only [execOp, hop]; rfl
      · rw [setOwn_self hb]; exact hc
      · rw [setOwn_self hb]; exact hc.eval x
    · exact h.elim
  · rename_i x hop
    split at h
    · rename_i b hb
      refine ⟨_, _, h, a.eval x, _, w, addr, ?_, .inl rfl, ?_, ?_⟩
      · simp only [execOp, hop]; rfl
      · rw [setOwn_self hb]; exact hc
      · rw [setOwn_self hb]; exact hc.eval x
    · exact h.elim
  · rename_i c x y hop
    split at h
    · rename_i bl hb hcond
      have hr := hc.eval c
      rw [hcond] at hr
      simp only [Rel] at hr
      refine ⟨_, _, h, a.eval x, _, w, addr, ?_, .inl rfl, ?_, ?_⟩
      · simp only [execOp, hop, hr, asBool, Sem.run_bind, Sem.run_pure, Result.andThen_ok, if_true]
      · rw [setOwn_self hb]; exact hc
      · rw [setOwn_self hb]; exact hc.eval x
    · rename_i bl hb hcond
      have hr := hc.eval c
      rw [hcond] at hr
      simp only [Rel] at hr
      refine ⟨_, _, h, a.eval y, _, w, addr, ?_, .inl rfl, ?_, ?_⟩
      · simp [execOp, hop, hr, asBool, Sem.run_bind, Sem.run_pure, Result.andThen_ok]
      · rw [setOwn_self hb]; exact hc
      · rw [setOwn_self hb]; exact hc.eval y
    · exact h.elim
  · rename_i x i hop
    split at h
    · rename_i bl s hb hs
      obtain ⟨vs, v, hx, hv, hr⟩ := exS_rel hs (hc.eval x)
      refine ⟨_, _, h, v, _, w, addr, ?_, .inl rfl, ?_, ?_⟩
      · simp only [execOp, hop, hx, Instr.extract, hv, Sem.run_bind, Sem.run_pure, Result.andThen_ok]
      · rw [setOwn_self hb]; exact hc
      · rw [setOwn_self hb]; exact hr
    · exact h.elim
  · exact h.elim

theorem addr_add (b off j : Nat) : (⟨b, off, none⟩ : Addr).add j = ⟨b, off + j, none⟩ := by
  unfold Addr.add; split <;> simp_all

theorem allVals_spec : ∀ {l : List SV} {vs : List Value}, allVals l = some vs → vs.length = l.length ∧ ∀ (j : Nat) (v : Value), vs[j]? = some v → ∃ s : SV, l[j]? = some s ∧ s.asVal = some v
  | [], vs, h => by simp [allVals] at h; subst h; simp
  | .val v :: l, vs, h => by
    simp only [allVals] at h
    split at h
    · rename_i vs' hvs; cases h
      have ih := allVals_spec hvs
      refine ⟨by simp [ih.1], fun j x hx => ?_⟩
      cases j with
      | zero => simp at hx; subst hx; exact ⟨.val v, by simp, rfl⟩
      | succ j => simpa using ih.2 j x (by simpa using hx)
    · simp at h
  | .lit b :: l, vs, h => by
    simp only [allVals] at h
    split at h
    · rename_i vs' hvs; cases h
      have ih := allVals_spec hvs
      refine ⟨by simp [ih.1], fun j x hx => ?_⟩
      cases j with
      | zero => simp at hx; subst hx; exact ⟨.lit b, by simp, rfl⟩
      | succ j => simpa using ih.2 j x (by simpa using hx)
    · simp at h
  | .own _ _ :: _, _, h | .osl _ _ _ _ :: _, _, h | .clo _ _ :: _, _, h | .any :: _, _, h => by simp [allVals] at h

theorem cell_own {w : World} {b off : Nat} {arr : Array Value} {T : TypeId} {fr : Nat × Nat} (h : w.heap[b]? = some (.cells arr T fr)) {j : Nat} {v : Value}
    (hv : arr[off + j]? = some v) : w.cell? ((⟨b, off, none⟩ : Addr).add j) = some v := by
  rw [addr_add]
  simp [World.cell?, h, hv]

theorem run_loadVar_agg {P : Program} {w : World} {t : TypeId} {a : Addr} {cs : List Value} (ha : aggOf P t = some true) (hs : sizeQ P t = some cs.length)
    (h : ∀ j v, cs[j]? = some v → w.cell? (a.add j) = some v) : (loadVar t a).run P w = .ok (.agg cs.toArray) w := by
  have hl := run_loadCells_list (P := P) w a cs h
  simp only [loadVar, Sem.run_bind, run_aggOf ha, Result.andThen_ok, if_true, run_sizeQ hs, hl, Sem.run_pure]
theorem run_loadVar_one {P : Program} {w : World} {t : TypeId} {a : Addr} {v : Value} (ha : aggOf P t = some false)
    (h : w.cell? a = some v) : (loadVar t a).run P w = .ok v w := by
  simp [loadVar, Sem.run_bind, run_aggOf ha, run_load, h]

theorem load_sound {P : Program} {Shp V rt o B w0 σ a w addr k} (hc : Conc B w0 σ V a w addr)
    (h : coreLoad P Shp V rt o σ.ev σ.own[rt]? k) : ∃ s ob, k s ob ∧ Does P o B w0 V a w (σ.setOwn rt ob) s := by
  unfold coreLoad at h
  split at h
  · rename_i t p ob hop hblk
    have hg := getD_of hblk
    have hre : ob.cs.real := by
      cases hcs : ob.cs with
      | fixed l => trivial
      | dyn l => trivial
      | list l => exfalso; rw [hcs] at h; revert h; repeat' split
                  all_goals simp_all
    obtain ⟨arr, hw, hba⟩ := hc.blk rt ob hg hre
    have hr := hc.eval p
    split at h
    · rename_i id off hp
      rw [hp] at hr
      simp only [Rel] at hr
      have hin : ∀ {v s}, (loadVar t ⟨addr rt, off, none⟩).run P w = .ok v w → id = rt → Rel addr σ.own s v →
          Does P o B w0 V a w (σ.setOwn rt (some ob)) s := by
        intro v s hv hid hs
        refine ⟨v, _, w, addr, ?_, .inl rfl, ?_, ?_⟩
        · subst hid
          simp only [execOp, hop, Instr.loadAt, hr.2, Instr.sureAddr, Sem.run_bind, Sem.run_pure, Result.andThen_ok, hv]
        · rw [setOwn_self hblk]; exact hc
        · rw [setOwn_self hblk]; exact hs
      split at h
      · rename_i n l hid ha hs hcs
        have hid := Nat.eq_of_beq_eq_true hid
        rw [hcs] at hba
        split at h
        · rename_i vs hvs hle
          have hle := Nat.le_of_ble_eq_true hle
          obtain ⟨hlen, hget⟩ := allVals_spec hvs
          have hn : vs.length = n := by rw [hlen]; simp; omega
          refine ⟨_, _, h, hin (run_loadVar_agg ha (by rw [hn]; exact hs) ?_) hid rfl⟩
          intro j v hv
          obtain ⟨s, hs1, hs2⟩ := hget j v hv
          have hj : j < n := by
            rcases Nat.lt_or_ge j vs.length with h | h
            · omega
            · rw [List.getElem?_eq_none h] at hv; simp at hv
          have hs1' : l[off + j]? = some s := by
            rw [List.getElem?_take_of_lt hj, List.getElem?_drop] at hs1; exact hs1
          have hlt : off + j < l.length := by omega
          have hrel := hba.2 (off + j) hlt
          have e1 : l.getD (off + j) .any = s := by simp [List.getD, hs1']
          rw [e1] at hrel
          have := hrel.asVal hs2
          refine cell_own hw ?_
          rw [Array.getElem?_eq_getElem (by rw [hba.1]; exact hlt)]
          rw [← this]
          have h2 : off + j < arr.size := by rw [hba.1]; exact hlt
          simp [Array.getD_eq_getD_getElem?, h2]
        · exact h.elim
      · rename_i l hid ha hcs
        have hid := Nat.eq_of_beq_eq_true hid
        rw [hcs] at hba
        split at h
        · rename_i s hs
          have hlt : off < l.length := by
            rcases Nat.lt_or_ge off l.length with h | h
            · exact h
            · rw [List.getElem?_eq_none h] at hs; simp at hs
          have hrel := hba.2 off hlt
          have e1 : l.getD off .any = s := by simp [List.getD, hs]
          rw [e1] at hrel
          have h2 : off < arr.size := by rw [hba.1]; exact hlt
          refine ⟨_, _, h, hin (v := arr.getD off undef) (run_loadVar_one ha ?_) hid hrel⟩
          have := cell_own (j := 0) (off := off) hw (v := arr.getD off undef) (by simp [Array.getD_eq_getD_getElem?, h2])
          simpa [Addr.add] using this
        · exact h.elim
      · rename_i l hid ha hcs
        have hid := Nat.eq_of_beq_eq_true hid
        rw [hcs] at hba
        obtain ⟨x, hx, h⟩ := h
        simp only [BlkAt] at hba
        subst hba
        refine ⟨_, _, h, hin (run_loadVar_one ha ?_) hid rfl⟩
        have := cell_own (j := 0) (off := off) hw (v := (Shp t).val x) (by simpa using hx)
        simpa [Addr.add] using this
      · rename_i n l hid ha hs hcs
        have hid := Nat.eq_of_beq_eq_true hid
        rw [hcs] at hba
        obtain ⟨x, hx, h⟩ := h
        simp only [BlkAt] at hba
        subst hba
        split at h
        · rename_i cs hval
          split at h
          · rename_i hsz
            have hsz := Nat.eq_of_beq_eq_true hsz
            rw [hval] at hx
            simp only [Value.cells] at hx
            refine ⟨_, _, h, hin (v := .agg cs) ?_ hid rfl⟩
            have := run_loadVar_agg (P := P) (w := w) (t := t) (a := ⟨addr rt, off, none⟩) (cs := cs.toList) ha (by simp [hsz, hs]) ?_
            · simpa using this
            · intro j v hv
              refine cell_own hw ?_
              rw [← hx] at hv
              have hj : j < n := by
                rcases Nat.lt_or_ge j n with h | h
                · exact h
                · rw [List.getElem?_eq_none (by simp; omega)] at hv; simp at hv
              rw [List.getElem?_take_of_lt hj, List.getElem?_drop] at hv
              simpa using hv
          · exact h.elim
        · exact h.elim
      · exact h.elim
    · exact h.elim
  · exact h.elim

theorem elemQ_spec {P : Program} {t e : TypeId} (h : elemQ P t = some e) : P.underlying t = some (.slice e) := by
  unfold elemQ at h; split at h <;> simp_all

theorem see_sound {P : Program} {Shp V rt o B w0 σ a w addr k} (hc : Conc B w0 σ V a w addr)
    (h : coreSee P Shp V rt o σ.ev σ.own[rt]? k) : ∃ s ob, k s ob ∧ Does P o B w0 V a w (σ.setOwn rt ob) s := by
  unfold coreSee at h
  split at h
  · rename_i t p b hop hblk
    have hr := hc.eval p
    split at h
    · rename_i pa hp
      rw [hp] at hr
      simp only [Rel] at hr
      have hin : ∀ {v s A}, pa = some A → (loadVar t A).run P w = .ok v w → Rel addr σ.own s v →
          Does P o B w0 V a w (σ.setOwn rt b) s := by
        intro v s A hA hv hs
        refine ⟨v, _, w, addr, ?_, .inl rfl, ?_, ?_⟩
        · subst hA
          simp only [execOp, hop, Instr.loadAt, hr, Instr.sureAddr, Sem.run_bind, Sem.run_pure, Result.andThen_ok, hv]
        · rw [setOwn_self hblk]; exact hc
        · rw [setOwn_self hblk]; exact hs
      split at h
      · rename_i n ha hs
        obtain ⟨x, hx, hsome, h⟩ := h
        obtain ⟨A, rfl⟩ := Option.isSome_iff_exists.1 hsome
        split at h
        · rename_i cs hval
          split at h
          · rename_i hsz
            have hsz := Nat.eq_of_beq_eq_true hsz
            rw [hval] at hx
            simp only [Value.cells] at hx
            refine ⟨_, _, h, hin (v := .agg cs) rfl ?_ rfl⟩
            have := run_loadVar_agg (P := P) (w := w) (t := t) (a := A) (cs := cs.toList) ha (by simp [hsz, hs]) (fun j v hv => View.load_cell hc.vin (hx j v hv))
            simpa using this
          · exact h.elim
        · exact h.elim
      · rename_i ha
        obtain ⟨x, hx, h⟩ := h
        cases pa with
        | none => simp [View.load] at hx
        | some A => exact ⟨_, _, h, hin rfl (run_loadVar_one ha (View.load_cell hc.vin hx)) rfl⟩
      · exact h.elim
    · exact h.elim
  · rename_i src dst x b hop hblk
    have hr := hc.eval x
    split at h
    · rename_i A len cap e hx he hst
      rw [hx] at hr
      simp only [Rel] at hr
      split at h
      · rename_i hu
        obtain ⟨bs, hbs, hlen, hsome, hk⟩ := h
        obtain ⟨A, rfl⟩ := Option.isSome_iff_exists.1 hsome
        subst hlen
        have hd : P.underlying dst = some .string := by unfold strQ at hst; split at hst <;> simp_all
        have hu8 : P.underlying e = some (.int .u8) := by unfold u8Q at hu; split at hu <;> simp_all
        have hrun := run_convert_bytes_back (P := P) w src dst e A cap bs (elemQ_spec he) hu8 hd (fun j hj => View.load_cell hc.vin (hbs j _ (by simp [hj, byteV])))
        refine ⟨_, _, hk, .string ⟨bs.toArray⟩, _, w, addr, ?_, .inl rfl, ?_, ?_⟩
        · simp only [execOp, hop, hr, Sem.run_bind, hrun, Result.andThen_ok, Sem.run_pure]
        · rw [setOwn_self hblk]; exact hc
        · rw [setOwn_self hblk]; rfl
      · exact h.elim
    · exact h.elim
  · exact h.elim

theorem hsz_of {y : Value} {n : Nat} (h : y.cells.toList.length = n) : y.cells.size = n := by simpa using h

theorem setL_eq {α : Type} : ∀ (vs l : List α) (off : Nat), off + vs.length ≤ l.length → setL l off vs = l.take off ++ vs ++ l.drop (off + vs.length)
  | [], l, off, _ => by simp [setL]
  | v :: vs, l, off, h => by
    simp only [List.length_cons] at h
    rw [setL, setL_eq vs (l.set off v) (off + 1) (by simp; omega)]
    apply List.ext_getElem?
    intro j
    have ht : (List.take (off + 1) (l.set off v)).length = off + 1 := by simp; omega
    have ht' : (List.take off l).length = off := by simp; omega
    simp only [List.append_assoc, List.getElem?_append, ht, ht', List.length_cons]
    by_cases h1 : j < off
    · have : j < off + 1 := by omega
      simp only [h1, this, if_true]
      rw [List.getElem?_take_of_lt this, List.getElem?_take_of_lt h1, List.getElem?_set_ne (by omega)]
    · by_cases h2 : j = off
      · subst h2
        have h3 : j < j + 1 := by omega
        simp only [h1, h3, if_true, if_false]
        rw [List.getElem?_take_of_lt h3]
        have h4 : j < l.length := by omega
        simp [List.getElem?_set, h4]
      · have h3 : ¬ j < off + 1 := by omega
        simp only [h1, h3, if_false]
        have e1 : j - off = (j - (off + 1)) + 1 := by omega
        rw [e1]
        simp only [List.getElem?_cons_succ, List.cons_append, Nat.add_lt_add_iff_right]
        have e2 : j - off - (vs.length + 1) = j - (off + 1) - vs.length := by omega
        by_cases h5 : j - (off + 1) < vs.length
        · rw [if_pos h5, if_pos h5]
        · rw [if_neg h5, if_neg h5, List.getElem?_drop, List.getElem?_drop, List.getElem?_set_ne (by omega)]
          congr 1
          omega

theorem cellsS_rel {addr own} {s : SV} {y : Value} (hr : Rel addr own s y) (hx : notAny s = true) :
    BlkAt addr own (.fixed (cellsS s)) y.cells := by
  cases s with
  | val v =>
    simp only [Rel] at hr; subst hr
    refine ⟨by simp [cellsS], fun i hi => ?_⟩
    simp only [cellsS, List.length_map, Array.length_toList] at hi
    simp [cellsS, List.getD, Rel, hi, Array.getD_eq_getD_getElem?]
  | any => simp [notAny] at hx
  | tlst _ _ _ _ => simp [notAny] at hx
  | lit b => simp only [Rel] at hr; subst hr; refine ⟨by simp [cellsS, Value.cells], fun i hi => ?_⟩; simp [cellsS] at hi; subst hi; simp [cellsS, Value.cells, Rel]
  | own id off =>
    have hr' := hr
    simp only [Rel] at hr; rw [hr.2]; refine ⟨by simp [cellsS, Value.cells], fun i hi => ?_⟩; simp [cellsS] at hi; subst hi; rw [hr.2] at hr'; simpa [cellsS, Value.cells] using hr'
  | osl id off len cap =>
    have hr' := hr
    simp only [Rel] at hr; rw [hr.2]; refine ⟨by simp [cellsS, Value.cells], fun i hi => ?_⟩; simp [cellsS] at hi; subst hi; rw [hr.2] at hr'; simpa [cellsS, Value.cells] using hr'
  | clo f ids =>
    have hr' := hr
    simp only [Rel] at hr; rw [hr.2]; refine ⟨by simp [cellsS, Value.cells], fun i hi => ?_⟩; simp [cellsS] at hi; subst hi; rw [hr.2] at hr'; simpa [cellsS, Value.cells] using hr'
  | lst id n cap =>
    have hr' := hr
    simp only [Rel] at hr; rw [hr.2]; refine ⟨by simp [cellsS, Value.cells], fun i hi => ?_⟩; simp [cellsS] at hi; subst hi; rw [hr.2] at hr'; simpa [cellsS, Value.cells] using hr'

theorem goodS_one {addr own} {s : SV} {y : Value} (hr : Rel addr own s y) (hg : goodS s = true) : y.oneCell' = true := by
  cases s with
  | val v => simp only [Rel] at hr; subst hr; exact hg
  | lit b => simp only [Rel] at hr; subst hr; rfl
  | own id off => rw [hr.2]; rfl
  | osl id off len cap => rw [hr.2]; rfl
  | clo f ids => rw [hr.2]; rfl
  | lst id n cap => rw [hr.2]; rfl
  | any => simp [goodS] at hg
  | tlst _ _ _ _ => simp [goodS] at hg

theorem allVals_rel {addr own} : ∀ {l : List SV} {vs : List Value} {ys : List Value}, allVals l = some vs → ys.length = l.length →
    (∀ i, i < l.length → Rel addr own (l.getD i .any) (ys.getD i undef)) → ys = vs := by
  intro l vs ys h hlen hr
  obtain ⟨h1, h2⟩ := allVals_spec h
  apply List.ext_getElem?
  intro j
  by_cases hj : j < l.length
  · have e : vs[j]? = some (vs[j]'(by omega)) := List.getElem?_eq_getElem _
    obtain ⟨s, hs, hv⟩ := h2 j _ e
    have := hr j hj
    have e1 : l.getD j .any = s := by simp [List.getD, hs]
    rw [e1] at this
    have := this.asVal hv
    rw [e, ← this]
    have hy : j < ys.length := by omega
    simp [List.getD, hy]
  · rw [List.getElem?_eq_none (by omega), List.getElem?_eq_none (by omega)]

theorem store_sound {P : Program} {Shp V rt o B w0 σ a w addr k} (hc : Conc B w0 σ V a w addr)
    (h : coreStore P Shp V rt o σ.ev σ.own[rt]? k) : ∃ s ob, k s ob ∧ Does P o B w0 V a w (σ.setOwn rt ob) s := by
  unfold coreStore at h
  split at h
  · rename_i t p x ob hop hblk
    have hg := getD_of hblk
    have hre : ob.cs.real := by
      cases hcs : ob.cs with
      | fixed l => trivial
      | dyn l => trivial
      | list l => exfalso; rw [hcs] at h; revert h; repeat' split
                  all_goals simp_all
    obtain ⟨arr, hw, hba⟩ := hc.blk rt ob hg hre
    have hrp := hc.eval p
    have hrx := hc.eval x
    split at h
    · rename_i id off n hp hs
      rw [hp] at hrp
      simp only [Rel] at hrp
      -- the run
      have hrun : ∀ l' : List SV, True → (cellsS (σ.ev x)).all goodS = true → (cellsS (σ.ev x)).length = n → id = rt → off + n ≤ arr.size →
          (execOp a.eval o).run P w = .ok .skip (w.setRow (addr rt) (arr.toList.take off ++ (a.eval x).cells.toList ++ arr.toList.drop (off + n)).toArray) ∧
          (a.eval x).cells.toList.length = n ∧ (∀ i, i < (cellsS (σ.ev x)).length → Rel addr σ.own ((cellsS (σ.ev x)).getD i .any) ((a.eval x).cells.toList.getD i undef)) := by
        intro _ _ hgood hlen hid hle
        have hne : notAny (σ.ev x) = true := by
          cases hx : σ.ev x <;> first | rfl | (rw [hx] at hgood; simp [cellsS, goodS] at hgood)
        have hcr := cellsS_rel hrx hne
        have hl : (a.eval x).cells.toList.length = n := by rw [Array.length_toList, hcr.1, hlen]
        have hrel : ∀ i, i < (cellsS (σ.ev x)).length → Rel addr σ.own ((cellsS (σ.ev x)).getD i .any) ((a.eval x).cells.toList.getD i undef) := by
          intro i hi
          have := hcr.2 i hi
          simpa [List.getD, Array.getD_eq_getD_getElem?] using this
        refine ⟨?_, hl, hrel⟩
        have h1 : ∀ v ∈ (a.eval x).cells.toList, v.oneCell' = true := by
          intro v hv
          obtain ⟨i, hi, rfl⟩ := List.getElem_of_mem hv
          have hi' : i < (cellsS (σ.ev x)).length := by omega
          have hgi := List.all_eq_true.1 hgood ((cellsS (σ.ev x))[i]) (List.getElem_mem _)
          have := hrel i hi'
          simp only [List.getD, List.getElem?_eq_getElem hi, List.getElem?_eq_getElem hi', Option.getD_some] at this
          exact goodS_one this hgi
        have hst := run_storeCells_at P (addr rt) off ob.ty (a.eval x).cells.toList 0 arr w hw (by rw [hl]; simpa using hle) h1
        have hsz : (a.eval x).cells.size = n := by simpa using hl
        subst hid
        simp only [Nat.add_zero, hl] at hst
        simp [execOp, hop, Instr.storeAt, hrp.2, Instr.sureAddr, Sem.run_bind, storeVar, run_sizeQ hs, hsz, hst]
      split at h
      · rename_i l hid hcs
        have hid := Nat.eq_of_beq_eq_true hid
        rw [hcs] at hba
        split at h
        · rename_i hgood hlen hle
          have hlen := Nat.eq_of_beq_eq_true hlen
          have hle := Nat.le_of_ble_eq_true hle
          obtain ⟨hr1, hl, hrel⟩ := hrun l trivial hgood hlen hid (by rw [hba.1]; exact hle)
          refine ⟨_, _, h, undef, _, _, addr, hr1, .inr ⟨rfl, rfl⟩, hc.wrBlk hblk hre (.fixed (setL l off (cellsS (σ.ev x)))) (by obtain ⟨ty, cs⟩ := ob; simp only at hcs; subst hcs; rfl) _ ?_, trivial⟩
          rw [setL_eq _ _ _ (by omega)]
          have hal : arr.toList.length = l.length := by simp [hba.1]
          refine ⟨by simp [hba.1, hlen, hsz_of hl], fun i hi => ?_⟩
          rw [List.length_append, List.length_append, List.length_take, List.length_drop] at hi
          have hoff : (List.take off l).length = off := by simp; omega
          have hoff' : (List.take off arr.toList).length = off := by simp [hba.1]; omega
          simp only [List.getD, Array.getD_eq_getD_getElem?, List.getElem?_toArray, List.append_assoc, List.getElem?_append, hoff, hoff', hlen, hl]
          by_cases h1 : i < off
          · simp only [h1, if_true]
            rw [List.getElem?_take_of_lt h1, List.getElem?_take_of_lt h1]
            have := hba.2 i (by omega)
            simpa [List.getD, Array.getD_eq_getD_getElem?] using this
          · simp only [h1, if_false]
            by_cases h2 : i - off < n
            · simp only [h2, if_true]
              have := hrel (i - off) (by omega)
              simpa [List.getD] using this
            · simp only [h2, if_false]
              rw [List.getElem?_drop, List.getElem?_drop]
              have := hba.2 (off + n + (i - off - n)) (by omega)
              simpa [List.getD, Array.getD_eq_getD_getElem?] using this
        · exact h.elim
      · rename_i l hid hcs
        have hid := Nat.eq_of_beq_eq_true hid
        rw [hcs] at hba
        simp only [BlkAt] at hba
        split at h
        · rename_i vs hgood hlen hvs
          obtain ⟨hle, h⟩ := h
          have hlen := Nat.eq_of_beq_eq_true hlen
          have hsz : arr.size = l.length := by rw [hba]; simp
          obtain ⟨hr1, hl, hrel⟩ := hrun [] trivial hgood hlen hid (by omega)
          refine ⟨_, _, h, undef, _, _, addr, hr1, .inr ⟨rfl, rfl⟩, hc.wrBlk hblk hre (.dyn (setL l off vs)) (by obtain ⟨ty, cs⟩ := ob; simp only at hcs; subst hcs; rfl) _ ?_, trivial⟩
          have hv : (a.eval x).cells.toList = vs := allVals_rel hvs (by omega) hrel
          have hvl : vs.length = n := by rw [← hv]; exact hl
          rw [setL_eq _ _ _ (by omega), hba, hv, hvl]
          rfl
        · exact h.elim
      · exact h.elim
    · exact h.elim
  · exact h.elim

theorem arrQ_spec {P : Program} {t n e : Nat} (h : arrQ P t = some (n, e)) : P.underlying t = some (.array n e) := by
  unfold arrQ at h; split at h <;> simp_all

theorem run_indexAt_slice {P : Program} {w : World} {t e : TypeId} {sz : Nat} {a : Addr} {len cap : Nat} {k : IntKind} {n : Int} (he : elemQ P t = some e) (hs : sizeQ P e = some sz)
    (h : 0 ≤ n ∧ n < len) : (Instr.indexAt t (.slice (some a) len cap) (.int k n)).run P w = .ok (.pointer (some (a.add (n.toNat * sz)))) w := by
  simp [Instr.indexAt, asIntOf, underlying, elemQ_spec he, run_sizeQ hs, h]
theorem run_indexAt_array {P : Program} {w : World} {t e : TypeId} {sz : Nat} {a : Addr} {len : Nat} {k : IntKind} {n : Int} (he : arrQ P t = some (len, e)) (hs : sizeQ P e = some sz)
    (h : 0 ≤ n ∧ n < len) : (Instr.indexAt t (.pointer (some a)) (.int k n)).run P w = .ok (.pointer (some (a.add (n.toNat * sz)))) w := by
  simp [Instr.indexAt, Instr.sureAddr, asIntOf, underlying, arrQ_spec he, run_sizeQ hs, h]

theorem run_sliceAt {P : Program} {w : World} {t e : TypeId} {sz : Nat} {a : Option Addr} {len cap : Nat} {lo hi : Option Value} {l h : Int} (he : elemQ P t = some e) (hs : sizeQ P e = some sz)
    (hlo : (lo = none ∧ l = 0) ∨ ∃ k, lo = some (.int k l)) (hhi : (hi = none ∧ h = len) ∨ ∃ k, hi = some (.int k h)) (hb : 0 ≤ l ∧ l ≤ h ∧ h ≤ cap) :
    (Instr.sliceAt t (.slice a len cap) lo hi none).run P w = .ok (.slice (if cap = l.toNat then a else a.map (·.add (l.toNat * sz))) (h.toNat - l.toNat) (cap - l.toNat)) w := by
  obtain ⟨h0, h1, h2⟩ := hb
  have h3 : 0 ≤ h := by omega
  have h4 : l ≤ (h.toNat : Int) := by omega
  have h5 : l ≤ max h 0 := by omega
  rcases hlo with ⟨rfl, rfl⟩ | ⟨kl, rfl⟩ <;> rcases hhi with ⟨rfl, rfl⟩ | ⟨kh, rfl⟩ <;>
    simp [Instr.sliceAt, Instr.slice, Instr.sliceBounds, Instr.sliceBound, asIntOf, underlying, elemQ_spec he, run_sizeQ hs, h0, h1, h2, h3, h4, h5]

theorem place_sound {P : Program} {Shp V rt o B w0 σ a w addr k} (hc : Conc B w0 σ V a w addr)
    (h : corePlace P Shp V rt o σ.ev σ.own[rt]? k) : ∃ s ob, k s ob ∧ Does P o B w0 V a w (σ.setOwn rt ob) s := by
  unfold corePlace at h
  split at h
  · rename_i s p f b hop hblk
    have hrp := hc.eval p
    split at h
    · rename_i id off d hp hf
      rw [hp] at hrp
      simp only [Rel] at hrp
      refine ⟨_, _, h, .pointer (some ⟨addr id, off + d, none⟩), _, w, addr, ?_, .inl rfl, ?_, ?_⟩
      · unfold fieldQ at hf
        split at hf
        · rename_i fs hfs
          split at hf
          · rename_i fd hfd
            split at hf
            · simp at hf
            · rename_i n hsz hne
              cases hf
              have hn : n ≠ 0 := by rintro rfl; exact hsz rfl
              simp [execOp, hop, Instr.fieldAt, underlying, hfs, hfd, hrp.2, Instr.sureAddr, fieldPlace, run_sizeQ hne, hn, addr_add]
            · simp at hf
          · simp at hf
        · simp at hf
      · rw [setOwn_self hblk]; exact hc
      · rw [setOwn_self hblk]; exact ⟨hrp.1, rfl⟩
    · exact h.elim
  · rename_i t x i b hop hblk
    have hrx := hc.eval x
    have hri := hc.eval i
    split at h
    · rename_i id off len cap kn n hx hi
      rw [hx] at hrx; rw [hi] at hri
      simp only [Rel] at hrx hri
      split at h
      · rename_i e he
        split at h
        · rename_i sz hsz
          obtain ⟨hb, h⟩ := h
          refine ⟨_, _, h, .pointer (some ⟨addr id, off + n.toNat * sz, none⟩), _, w, addr, ?_, .inl rfl, ?_, ?_⟩
          · simp only [execOp, hop, hrx.2, hri, Sem.run_bind, run_indexAt_slice he hsz hb, Result.andThen_ok, Sem.run_pure, addr_add]
          · rw [setOwn_self hblk]; exact hc
          · rw [setOwn_self hblk]; exact ⟨hrx.1, rfl⟩
        · exact h.elim
      · exact h.elim
    · rename_i id off kn n hx hi
      rw [hx] at hrx; rw [hi] at hri
      simp only [Rel] at hrx hri
      split at h
      · rename_i len e he
        split at h
        · rename_i sz hsz
          obtain ⟨hb, h⟩ := h
          refine ⟨_, _, h, .pointer (some ⟨addr id, off + n.toNat * sz, none⟩), _, w, addr, ?_, .inl rfl, ?_, ?_⟩
          · simp only [execOp, hop, hrx.2, hri, Sem.run_bind, run_indexAt_array he hsz hb, Result.andThen_ok, Sem.run_pure, addr_add]
          · rw [setOwn_self hblk]; exact hc
          · rw [setOwn_self hblk]; exact ⟨hrx.1, rfl⟩
        · exact h.elim
      · exact h.elim
    · rename_i al len cap kn n hx hi
      rw [hx] at hrx; rw [hi] at hri
      simp only [Rel] at hrx hri
      split at h
      · rename_i e he
        split at h
        · rename_i sz hsz
          obtain ⟨⟨hb1, hb2, hsome⟩, h⟩ := h
          obtain ⟨A, rfl⟩ := Option.isSome_iff_exists.1 hsome
          refine ⟨_, _, h, .pointer (some (A.add (n.toNat * sz))), _, w, addr, ?_, .inl rfl, ?_, ?_⟩
          · simp only [execOp, hop, hrx, hri, Sem.run_bind, run_indexAt_slice he hsz ⟨hb1, hb2⟩, Result.andThen_ok, Sem.run_pure]
          · rw [setOwn_self hblk]; exact hc
          · rw [setOwn_self hblk]; rfl
        · exact h.elim
      · exact h.elim
    · exact h.elim
  · rename_i t x lo hi mx b hop hblk
    have hrx := hc.eval x
    split at h
    · rename_i e he
      split at h
      · rename_i sz id off len cap l hsz hx hl
        rw [hx] at hrx
        simp only [Rel] at hrx
        split at h
        · rename_i hh hhi
          obtain ⟨⟨h0, h1, h2, h3⟩, h⟩ := h
          refine ⟨_, _, h, .slice (some ⟨addr id, off + l.toNat * sz, none⟩) (hh.toNat - l.toNat) (cap - l.toNat), _, w, addr, ?_, .inl rfl, ?_, ?_⟩
          · have hlo : (lo.map a.eval = none ∧ l = 0) ∨ ∃ k, lo.map a.eval = some (.int k l) := by
              cases lo with
              | none => simp at hl; exact .inl ⟨rfl, hl.symm⟩
              | some y =>
                have hry := hc.eval y
                simp only at hl
                split at hl
                · rename_i k n hy; cases hl; rw [hy] at hry; exact .inr ⟨k, by simp only [Option.map_some]; rw [hry]⟩
                · simp at hl
            have hhi' : (hi.map a.eval = none ∧ hh = len) ∨ ∃ k, hi.map a.eval = some (.int k hh) := by
              cases hi with
              | none => simp at hhi; exact .inl ⟨rfl, hhi.symm⟩
              | some y =>
                have hry := hc.eval y
                simp only at hhi
                split at hhi
                · rename_i k n hy; cases hhi; rw [hy] at hry; exact .inr ⟨k, by simp only [Option.map_some]; rw [hry]⟩
                · simp at hhi
            have hcap : ¬ cap = l.toNat := by omega
            simp only [execOp, hop, hrx.2, Option.map_none, Sem.run_bind, run_sliceAt he hsz hlo hhi' ⟨h0, h1, h2⟩, Result.andThen_ok, Sem.run_pure, hcap, if_false, Option.map_some, addr_add]
          · rw [setOwn_self hblk]; exact hc
          · rw [setOwn_self hblk]; exact ⟨hrx.1, rfl⟩
        · exact h.elim
      · rename_i sz al len cap l hsz hx hl
        rw [hx] at hrx
        simp only [Rel] at hrx
        split at h
        · rename_i hh hhi
          obtain ⟨⟨h0, h1, h2⟩, h⟩ := h
          refine ⟨_, _, h, _, _, w, addr, ?_, .inl rfl, ?_, rfl⟩
          · have hlo : (lo.map a.eval = none ∧ l = 0) ∨ ∃ k, lo.map a.eval = some (.int k l) := by
              cases lo with
              | none => simp at hl; exact .inl ⟨rfl, hl.symm⟩
              | some y =>
                have hry := hc.eval y
                simp only at hl
                split at hl
                · rename_i k n hy; cases hl; rw [hy] at hry; exact .inr ⟨k, by simp only [Option.map_some]; rw [hry]⟩
                · simp at hl
            have hhi' : (hi.map a.eval = none ∧ hh = len) ∨ ∃ k, hi.map a.eval = some (.int k hh) := by
              cases hi with
              | none => simp at hhi; exact .inl ⟨rfl, hhi.symm⟩
              | some y =>
                have hry := hc.eval y
                simp only at hhi
                split at hhi
                · rename_i k n hy; cases hhi; rw [hy] at hry; exact .inr ⟨k, by simp only [Option.map_some]; rw [hry]⟩
                · simp at hhi
            simp only [execOp, hop, hrx, Option.map_none, Sem.run_bind, run_sliceAt he hsz hlo hhi' ⟨h0, h1, h2⟩, Result.andThen_ok, Sem.run_pure]
          · rw [setOwn_self hblk]; exact hc
        · exact h.elim
      · exact h.elim
    · exact h.elim
  · rename_i c b hop hblk
    split at h
    · rename_i x t hcal hargs htys
      have hrx := hc.eval x
      split at h
      · rename_i id off len cap e hx he
        rw [hx] at hrx
        simp only [Rel] at hrx
        obtain ⟨callee, args, argTypes⟩ := c
        simp only at hcal hargs htys
        have h1 : args = #[x] := by apply Array.ext'; simpa using hargs
        have h2 : argTypes = #[t] := by apply Array.ext'; simpa using htys
        subst hcal; subst h1; subst h2
        refine ⟨_, _, h, .int .i64 len, _, w, addr, ?_, .inl rfl, ?_, ?_⟩
        · simp [execOp, hop, resolve, invoke, builtin, Builtin.len_, underlying, elemQ_spec he, hrx.2, goInt]
        · rw [setOwn_self hblk]; exact hc
        · rw [setOwn_self hblk]; rfl
      · exact h.elim
    · exact h.elim
  · rename_i f first caps b hop hblk
    split at h
    · rename_i p hfirst hcaps
      have hrp := hc.eval p
      split at h
      · rename_i id hp
        rw [hp] at hrp
        simp only [Rel] at hrp
        have hf0 : first = #[] := by apply Array.ext'; simpa using hfirst
        have hc0 : caps = #[p] := by apply Array.ext'; simpa using hcaps
        subst hf0; subst hc0
        refine ⟨_, _, h, .func (.func f) #[] #[.pointer (some ⟨addr id, 0, none⟩)], _, w, addr, ?_, .inl rfl, ?_, ?_⟩
        · simp [execOp, hop, Instr.makeFunc, hrp.2]
        · rw [setOwn_self hblk]; exact hc
        · rw [setOwn_self hblk]; exact ⟨by intro i hi; simp at hi; subst hi; exact hrp.1, by simp⟩
      · exact h.elim
    · exact h.elim
  · exact h.elim

theorem argVals_spec {addr own} {σ : St} {a : Act} (hev : ∀ x, Rel addr own (σ.ev x) (a.eval x)) : ∀ {l : List Operand} {vs : List Value}, argVals σ.ev l = some vs → l.map a.eval = vs
  | [], vs, h => by simp [argVals] at h; subst h; rfl
  | x :: l, vs, h => by
    simp only [argVals] at h
    split at h
    · rename_i v vs' hv hvs
      cases h
      simp [(hev x).asVal hv, argVals_spec hev hvs]
    · simp at h

theorem run_fmax {P : Program} {w : World} {k k' : FloatKind} {a c : Nat} (h : (k.format.order a c).isSome = true) : (Builtin.max2 (.float k a) (.float k' c)).run P w = .ok (.float k (fmax k a c)) w := by
  unfold Builtin.max2 fmax
  cases ho : k.format.order a c with
  | none => simp [ho] at h
  | some r => cases r <;> simp [ho]
theorem run_fmin {P : Program} {w : World} {k k' : FloatKind} {a c : Nat} (h : (k.format.order a c).isSome = true) : (Builtin.min2 (.float k a) (.float k' c)).run P w = .ok (.float k (fmin k a c)) w := by
  unfold Builtin.min2 fmin
  cases ho : k.format.order a c with
  | none => simp [ho] at h
  | some r => cases r <;> simp [ho]

theorem run_sliceAt3 {P : Program} {w : World} {t e : TypeId} {sz : Nat} {a : Option Addr} {len cap : Nat} {lo : Option Value} {kh km : IntKind} {l h m : Int} (he : elemQ P t = some e) (hs : sizeQ P e = some sz)
    (hlo : (lo = none ∧ l = 0) ∨ ∃ k, lo = some (.int k l)) (hb : 0 ≤ l ∧ l ≤ h ∧ h ≤ m ∧ m ≤ cap) :
    (Instr.sliceAt t (.slice a len cap) lo (some (.int kh h)) (some (.int km m))).run P w = .ok (.slice (if m.toNat = l.toNat then a else a.map (·.add (l.toNat * sz))) (h.toNat - l.toNat) (m.toNat - l.toNat)) w := by
  obtain ⟨h0, h1, h2, h3⟩ := hb
  have h4 : 0 ≤ h := by omega
  have h5 : 0 ≤ m := by omega
  have h6 : h ≤ (m.toNat : Int) := by omega
  have h7 : h ≤ max m 0 := by omega
  have h8 : l ≤ (h.toNat : Int) := by omega
  have h9 : l ≤ max h 0 := by omega
  rcases hlo with ⟨rfl, rfl⟩ | ⟨kl, rfl⟩ <;>
    simp [Instr.sliceAt, Instr.slice, Instr.sliceBounds, Instr.sliceBound, asIntOf, underlying, elemQ_spec he, run_sizeQ hs, h0, h1, h2, h3, h4, h5, h6, h7, h8, h9]

theorem more_sound {P : Program} {Shp V rt o B w0 σ a w addr k} (hc : Conc B w0 σ V a w addr)
    (h : coreMore P Shp V rt o σ.ev σ.own[rt]? k) : ∃ s ob, k s ob ∧ Does P o B w0 V a w (σ.setOwn rt ob) s := by
  unfold coreMore at h
  split at h
  · exact h.elim
  · rename_i b hblk
    have fin : ∀ {v : Value}, (execOp a.eval o).run P w = .ok (.value v) w → k (.val v) b → ∃ s ob, k s ob ∧ Does P o B w0 V a w (σ.setOwn rt ob) s := by
      intro v hv hk
      exact ⟨_, _, hk, v, _, w, addr, hv, .inl rfl, by rw [setOwn_self hblk]; exact hc, by rw [setOwn_self hblk]; rfl⟩
    split at h
    · rename_i op t x y yt hop
      have hx := hc.eval x
      have hy := hc.eval y
      split at h
      · rename_i kk a' k' c ex ey
        rw [ex] at hx; rw [ey] at hy
        simp only [Rel] at hx hy
        refine fin ?_ h.2
        have h0 : ¬ c < 0 := by omega
        simp [execOp, hop, eqGuard, hx, hy, binOp, Op.shift, h0]
      · rename_i kk a' k' c ex ey
        rw [ex] at hx; rw [ey] at hy
        simp only [Rel] at hx hy
        refine fin ?_ h.2
        have h0 : ¬ c < 0 := by omega
        simp [execOp, hop, eqGuard, hx, hy, binOp, Op.shift, h0]
      · rename_i kk a' k' c ex ey
        rw [ex] at hx; rw [ey] at hy
        simp only [Rel] at hx hy
        split at h
        · rename_i hk
          have hk := of_decide_eq_true hk
          subst hk
          refine fin ?_ h.2
          simp [execOp, hop, eqGuard, hx, hy, binOp, Op.intDiv, h.1]
        · exact h.elim
      · rename_i kk a' k' c ex ey
        rw [ex] at hx; rw [ey] at hy
        simp only [Rel] at hx hy
        split at h
        · rename_i hk
          have hk := of_decide_eq_true hk
          subst hk
          refine fin ?_ h.2
          simp [execOp, hop, eqGuard, hx, hy, binOp, Op.intDiv, h.1]
        · exact h.elim
      · rename_i s u ex ey
        rw [ex] at hx; rw [ey] at hy
        simp only [Rel] at hx hy
        refine fin ?_ h.2
        have h0 : ¬ (IntKind.i64.max < ((s.size + u.size : Nat) : Int)) := by omega
        simp only [execOp, hop, eqGuard, hx, hy, binOp, Op.stringOp]
        have h1 : (s.size : Int) + u.size ≤ 9223372036854775807 := by
          have := h.1
          have hm : IntKind.i64.max = 9223372036854775807 := by decide
          rw [hm] at this
          simpa using this
        simp [h1]
      · rename_i s u ex ey
        rw [ex] at hx; rw [ey] at hy
        simp only [Rel] at hx hy
        split at h
        · rename_i hg
          obtain ⟨c, hq, hk⟩ := h
          refine fin ?_ hk
          simp [execOp, hop, eqGuard, hx, hy, hg, hq w]
        · exact h.elim
      · rename_i sa sl sc ul uc ex ey
        rw [ex] at hx; rw [ey] at hy
        simp only [Rel] at hx hy
        split at h
        · rename_i e he
          refine fin ?_ h.2
          have := Lib.run_eql_slice_nil (P := P) w t e sa sl sc ul uc (elemQ_spec he)
          simp [execOp, hop, eqGuard, hx, hy, this]
        · exact h.elim
      · exact h.elim
    · rename_i c hop
      obtain ⟨callee, args, argTypes⟩ := c
      split at h
      · rename_i x y hcal hargs
        simp only at hcal hargs
        have h1 : args = #[x, y] := by apply Array.ext'; simpa using hargs
        subst hcal; subst h1
        have hx := hc.eval x
        have hy := hc.eval y
        split at h
        · rename_i kk a' k' c' ex ey
          rw [ex] at hx; rw [ey] at hy
          simp only [Rel] at hx hy
          refine fin ?_ h.2
          simp [execOp, hop, resolve, invoke, builtin, Builtin.max_, hx, hy, run_fmax h.1]
        · exact h.elim
      · rename_i x y hcal hargs
        simp only at hcal hargs
        have h1 : args = #[x, y] := by apply Array.ext'; simpa using hargs
        subst hcal; subst h1
        have hx := hc.eval x
        have hy := hc.eval y
        split at h
        · rename_i kk a' k' c' ex ey
          rw [ex] at hx; rw [ey] at hy
          simp only [Rel] at hx hy
          refine fin ?_ h.2
          simp [execOp, hop, resolve, invoke, builtin, Builtin.min_, hx, hy, run_fmin h.1]
        · exact h.elim
      · rename_i f hcal
        simp only at hcal
        subst hcal
        split at h
        · rename_i vs t hvs hres
          obtain ⟨x, hx, hk⟩ := h
          have hargs : args.map a.eval = vs.toArray := by
            apply Array.ext'
            simpa using argVals_spec hc.eval hvs
          refine fin ?_ hk
          simp only [execOp, hop, resolve, hargs, Act.eval, Deferred.ofValue, Sem.run_bind, Sem.run_pure, Result.andThen_ok, invoke]
          simpa using hx w
        · exact h.elim
      · exact h.elim
    · rename_i t x ix hop
      have hx := hc.eval x
      have hi := hc.eval ix
      split at h
      · rename_i s kk n hs ex ei
        rw [ex] at hx; rw [ei] at hi
        simp only [Rel] at hx hi
        refine fin ?_ h.2
        have hu : P.underlying t = some .string := by unfold strQ at hs; split at hs <;> simp_all
        have hlt : n.toNat < s.data.size := by
          have := h.1.2
          have e : s.size = s.data.size := rfl
          omega
        have hget : s[n.toNat]? = some (s.data[n.toNat]'hlt) := by
          have h1 : n.toNat < s.size := hlt
          rw [getElem?_pos s n.toNat h1]; rfl
        simp [execOp, hop, Instr.index, asIntOf, hx, hi, underlying, hu, h.1.1, hget, strAt, List.getD, hlt]
        rw [Array.getElem?_eq_getElem hlt]; rfl
      · exact h.elim
    · rename_i t x lo hi mx hop
      have hx := hc.eval x
      have hm := hc.eval mx
      split at h
      · rename_i e a' len cap l hh km m he ex hlo hhi em
        rw [ex] at hx; rw [em] at hm
        simp only [Rel] at hx hm
        split at h
        · rename_i sz hsz
          refine fin ?_ h.2
          have hlo' : (lo.map a.eval = none ∧ l = 0) ∨ ∃ k, lo.map a.eval = some (.int k l) := by
            cases lo with
            | none => simp at hlo; exact .inl ⟨rfl, hlo.symm⟩
            | some y =>
              have hry := hc.eval y
              simp only at hlo
              split at hlo
              · rename_i k n hy; cases hlo; rw [hy] at hry; exact .inr ⟨k, by simp only [Option.map_some]; rw [hry]⟩
              · simp at hlo
          cases hi with
          | none => simp at hhi
          | some y =>
            have hry := hc.eval y
            simp only at hhi
            split at hhi
            · rename_i kh n hy
              cases hhi; rw [hy] at hry
              simp only [Rel] at hry
              simp only [execOp, hop, hx, hm, hry, Option.map_some, Sem.run_bind, run_sliceAt3 he hsz hlo' h.1, Result.andThen_ok, Sem.run_pure]
            · simp at hhi
        · exact h.elim
      · exact h.elim
    · exact h.elim

theorem copy_sound {P : Program} {Shp V rt o B w0 σ a w addr k} (hc : Conc B w0 σ V a w addr)
    (h : coreCopy P Shp V rt o σ.ev σ.own[rt]? k) : ∃ s ob, k s ob ∧ Does P o B w0 V a w (σ.setOwn rt ob) s := by
  unfold coreCopy at h
  split at h
  · rename_i c ob hop hblk
    have hg := getD_of hblk
    have hre : ob.cs.real := by
      cases hcs : ob.cs with
      | fixed l => trivial
      | dyn l => trivial
      | list l => exfalso; rw [hcs] at h; revert h; repeat' split
                  all_goals simp_all
    obtain ⟨arr, hw, hba⟩ := hc.blk rt ob hg hre
    obtain ⟨callee, args, argTypes⟩ := c
    split at h
    · rename_i x y t t2 hcal hargs htys
      simp only at hcal hargs htys
      have h1 : args = #[x, y] := by apply Array.ext'; simpa using hargs
      have h2 : argTypes = #[t, t2] := by apply Array.ext'; simpa using htys
      subst hcal; subst h1; subst h2
      have hx := hc.eval x
      have hy := hc.eval y
      split at h
      · rename_i id off len cap a' n cap' e l ex ey he hcs
        rw [ex] at hx; rw [ey] at hy
        simp only [Rel] at hx hy
        split at h
        · rename_i sz hid hsz
          have hid := Nat.eq_of_beq_eq_true hid
          obtain ⟨vs, hvs, hlen, hne, h1c, hle, hk⟩ := h
          rw [hcs] at hba
          simp only [BlkAt] at hba
          have hasz : arr.size = l.length := by rw [hba]; simp
          have hst := run_storeCells_at P (addr rt) off ob.ty vs 0 arr w hw (by simpa [hasz] using hle) h1c
          simp only [Nat.add_zero] at hst
          have hmin : Nat.min n len = min n len := rfl
          have hload : (Builtin.firstCells sz (Nat.min n len) (.slice a' n cap')).run P w = .ok vs.toArray w := by
            cases a' with
            | none =>
              rcases hne with rfl | h0
              · simp [Builtin.firstCells]
              · simp at h0
            | some A =>
              simp only [Builtin.firstCells]
              have := run_loadCells_list (P := P) w A vs (fun j v hv => View.load_cell hc.vin (hvs j v hv))
              rw [hlen] at this
              exact this
          refine ⟨_, _, hk, .int .i64 (min n len : Nat), _, _, addr, ?_, .inl rfl, hc.wrBlk hblk hre (.dyn (setL l off vs)) (by obtain ⟨ty, cs⟩ := ob; simp only at hcs; subst hcs; rfl) (arr.toList.take off ++ vs ++ arr.toList.drop (off + vs.length)).toArray ?_, rfl⟩
          · subst hid
            simp only [execOp, hop, resolve, invoke, builtin, Builtin.copy_]
            simp [hx.2, hy, underlying, elemQ_spec he, Builtin.lenOf, run_sizeQ hsz, hload, hst, goInt, hmin]
          · simp only [BlkAt]
            rw [setL_eq _ _ _ hle, hba]
        · exact h.elim
      · exact h.elim
    · exact h.elim
  · exact h.elim

/-- An operation that calls nothing does what 'coreT' says. -/
theorem coreT_sound {P : Program} {Shp V an o B w0 σ a w addr k} (hc : Conc B w0 σ V a w addr)
    (h : coreT P Shp V an o σ.ev σ.own[an.rt]? k) : ∃ s ob, k s ob ∧ Does P o B w0 V a w (σ.setOwn an.rt ob) s := by
  unfold coreT at h
  split at h
  · exact move_sound hc h
  · exact new_sound hc h
  · exact load_sound hc h
  · exact see_sound hc h
  · exact store_sound hc h
  · exact place_sound hc h
  · exact more_sound hc h
  · exact copy_sound hc h
  · split at h
    · rename_i b hb
      obtain ⟨s, hk, hd⟩ := gen_sound hc h
      exact ⟨s, b, hk, by rw [setOwn_self hb]; exact hd⟩
    · exact h.elim
  · split at h
    · rename_i b hb
      obtain ⟨s, hk, hd⟩ := gen_sound hc h
      exact ⟨s, b, hk, by rw [setOwn_self hb]; exact hd⟩
    · exact h.elim

end Go.Vc

namespace Go.Vc
open Go Go.RowKit

def guardOf (ops : Array Oper) (o : Oper) (σ : St) : Option Bool :=
  match o.guard with
  | none => some true
  | some (j, want) =>
    match (ops[j]?).bind (·.dst) with
    | some t => match σ.tm.getD t .any with
      | .lit c => some (c == want)
      | .val (.tuple _) => some false
      | _ => none
    | none => none

/-- An answer that is decided at once. -/
def fin (sp : Bool) (s : SV) (k : SV → Prop) : Prop :=
  match sp with
  | false => k s
  | true => match s with
    | .lit c => k (.lit c)
    | .val (.bool b) => (b = true → k (.lit true)) ∧ (b = false → k (.lit false))
    | _ => False

def callable (P : Program) (f : FuncId) : Bool :=
  match P.funcs[f]? with
  | some fn => !(fn.name == "runtime.NumGoroutine") && fn.body.isSome
  | none => false
/-- What came back, by its type. -/
def resT (Shp : Shapes) (ts : List TypeId) (v : Value) (k : SV → Prop) : Prop :=
  match ts with
  | [] => v = .tuple #[] ∧ k (.val (.tuple #[]))
  | [t] => ∃ x : (Shp t).α, v = (Shp t).val x ∧ k (.val ((Shp t).val x))
  | [t, u] => ∃ (x : (Shp t).α) (y : (Shp u).α), v = .tuple #[(Shp t).val x, (Shp u).val y] ∧ k (.val (.tuple #[(Shp t).val x, (Shp u).val y]))
  | [t, u, s] => ∃ (x : (Shp t).α) (y : (Shp u).α) (z : (Shp s).α), v = .tuple #[(Shp t).val x, (Shp u).val y, (Shp s).val z] ∧ k (.val (.tuple #[(Shp t).val x, (Shp u).val y, (Shp s).val z]))
  | [t, u, s, r] => ∃ (x : (Shp t).α) (y : (Shp u).α) (z : (Shp s).α) (q : (Shp r).α), v = .tuple #[(Shp t).val x, (Shp u).val y, (Shp s).val z, (Shp r).val q] ∧
      k (.val (.tuple #[(Shp t).val x, (Shp u).val y, (Shp s).val z, (Shp r).val q]))
  | _ => False

def ptrQ : TypeDesc → Bool
  | .pointer _ => true
  | _ => false
/-- A value's own method. -/
def methQ (P : Program) (t : TypeId) (name : String) : Option FuncId :=
  match P.info? t, P.underlying t with
  | some i, some u => match i.methods.find? (·.name == name), ptrQ u with
    | some m, false => match m.path.isEmpty, m.func with
      | true, some (f, false) => some f
      | _, _ => none
    | _, _ => none
  | _, _ => none
/-- The function and the arguments of a call. -/
def callQ (P : Program) (o : Oper) (ev : Operand → SV) : Option (FuncId × List Value) :=
  match o.op with
  | .call c =>
    match c.callee with
    | .value fo =>
      match ev fo with
      | .val (.func (.func f) first caps) =>
        match first.toList, callable P f, argVals ev c.args.toList with
        | [], true, some vs => some (f, vs ++ caps.toList)
        | _, _, _ => none
      | _ => none
    | .invoke r name =>
      match ev r with
      | .val (.iface t x) =>
        match methQ P t name with
        | some f => match callable P f, argVals ev c.args.toList with
          | true, some vs => some (f, x :: vs)
          | _, _ => none
        | none => none
      | _ => none
    | _ => none
  | _ => none

/-- A call of a function by its number. -/
def callT (P : Program) (Shp : Shapes) (sp : Bool) (o : Oper) (σ : St) (V : View) (K : St → View → Prop) : Prop :=
  match callQ P o σ.ev with
  | some (f, vs) => CallV P f vs.toArray V fun v V' => resT Shp (resTypes P f) v fun s => fin sp s fun s => K (σ.put o.dst s) V'
  | none => False

/-- The cells of a slice that is written out. -/
def buildC (P : Program) (o : Oper) (ev : Operand → SV) : Option (Array Value × Nat) :=
  match o.op with
  | .buildSlice t n parts =>
    match elemQ P t with
    | some e =>
      match zerosQ P e, sizeQ P e, parts.toList.all (fun p => (ev p.2).asVal.isSome) with
      | some zs, some sz, true =>
        match Nat.ble (n * sz) 16777216, Nat.beq zs.length sz, Instr.fill (fun i => some (i * sz, sz)) (List.replicate n zs).flatten.toArray (parts.toList.map fun p => (p.1, rho ev p.2)) with
        | true, true, some cells => some (cells, n)
        | _, _, _ => none
      | _, _, _ => none
    | none => none
  | _ => none

/-- A slice that is written out, never to be written again. -/
def buildT (P : Program) (o : Oper) (σ : St) (V : View) (K : St → View → Prop) : Prop :=
  match buildC P o σ.ev with
  | some (cells, n) => ∀ (b : Nat) (V' : View), V.le V' → V'.Fin → V' b = some cells → K (σ.put o.dst (.val (.slice (some ⟨b, 0, none⟩) n n))) V'
  | none => False

/-- The function and the arguments of a call to which a block is lent. -/
def callQD (P : Program) (o : Oper) (ev : Operand → SV) : Option (FuncId × (Nat × Nat × Nat × Nat) × List Value) :=
  match o.op with
  | .call c =>
    match c.callee, c.args.toList with
    | .value fo, x :: rest =>
      match ev fo, ev x with
      | .val (.func (.func f) first caps), .osl id off len cap =>
        match first.toList, caps.toList, callable P f, argVals ev rest with
        | [], [], true, some vs => some (f, (id, off, len, cap), vs)
        | _, _, _, _ => none
      | _, _ => none
    | _, _ => none
  | _ => none

/-- A call to which a slice over a block of the call's own is lent. -/
def callDT (P : Program) (Shp : Shapes) (sp : Bool) (o : Oper) (σ : St) (V : View) (K : St → View → Prop) : Prop :=
  match callQD P o σ.ev with
  | some (f, (id, off, len, cap), vs) =>
    match σ.own[id]? with
    | some (some ⟨ty, .dyn l⟩) => CallD P f (fun b => .slice (some ⟨b, off, none⟩) len cap :: vs) ty l V fun v l' V' =>
        resT Shp (resTypes P f) v fun s => fin sp s fun s => K ((σ.setOwn id (some ⟨ty, .dyn l'⟩)).put o.dst s) V'
    | _ => False
  | none => False

/-- A call that hands over a slice. -/
def callOT (P : Program) (Shp : Shapes) (solid : Bool) (id : Nat) (o : Oper) (σ : St) (V : View) (K : St → View → Prop) : Prop :=
  match callQ P o σ.ev, σ.own[id]? with
  | some (f, vs), some none =>
    match resTypes P f with
    | [t] => match elemQ P t with
      | some e => CallO P f vs.toArray e V fun n cap l rest V' => rest = [] ∧ (match solid with
        | false => K ((σ.setOwn id (some ⟨e, .list l⟩)).put o.dst (.lst id n cap)) V'
        | true => (cap ≠ 0 ∧ l ≠ []) ∧ K ((σ.setOwn id (some ⟨e, .dyn l⟩)).put o.dst (.osl id 0 n cap)) V')
      | none => False
    | [t, u] => match elemQ P t with
      | some e => CallO P f vs.toArray e V fun n cap l rest V' => ∃ x : (Shp u).α, rest = [(Shp u).val x] ∧ K ((σ.setOwn id (some ⟨e, .list l⟩)).put o.dst (.tlst id n cap [(Shp u).val x])) V'
      | none => False
    | _ => False
  | _, _ => False

/-- A call to which a slice over a block of the call's own is lent, and that returns it. -/
def callDST (P : Program) (o : Oper) (σ : St) (V : View) (K : St → View → Prop) : Prop :=
  match callQD P o σ.ev with
  | some (f, (id, off, len, cap), vs) =>
    match σ.own[id]? with
    | some (some ⟨ty, .dyn l⟩) => CallDS P f (fun b => .slice (some ⟨b, off, none⟩) len cap :: vs) ty l V fun l' V' =>
        K ((σ.setOwn id (some ⟨ty, .dyn l'⟩)).put o.dst (.osl id off len cap)) V'
    | _ => False
  | none => False

/-- A slice that is made, never to be written. -/
def makeT (P : Program) (o : Oper) (σ : St) (V : View) (K : St → View → Prop) : Prop :=
  match o.op with
  | .makeSlice t n c =>
    match elemQ P t, σ.ev n, σ.ev c with
    | some e, .val (.int _ ln), .val (.int _ cp) =>
      match zerosQ P e, sizeQ P e, bytesQ P e with
      | some zs, some sz, some bs => (0 ≤ ln ∧ ln ≤ cp ∧ (bs : Int) * cp ≤ 281474976710656 ∧ cp ≤ 9223372036854775807) ∧
        (match Nat.beq zs.length sz with
         | true => ∀ (b : Nat) (V' : View), V.le V' → V'.Fin → V' b = some (List.toArray (List.replicate cp.toNat zs).flatten) → K (σ.put o.dst (.val (.slice (some ⟨b, 0, none⟩) ln.toNat cp.toNat))) V'
         | false => False)
      | _, _, _ => False
    | _, _, _ => False
  | _ => False

/-- The parts of an append: the list, what is appended, the element's type, its cells and bytes. -/
def appQ (P : Program) (o : Oper) : Option (Operand × Operand × TypeId × Nat × Nat) :=
  match o.op with
  | .call c =>
    match c.callee, c.args.toList, c.argTypes.toList with
    | .builtin .append, [x, y], [t, u] =>
      match Nat.beq t u, elemQ P t with
      | true, some e =>
        match zerosQ P e, sizeQ P e, bytesQ P e with
        | some zs, some sz, some bs =>
          match Nat.beq zs.length sz, Nat.ble 1 sz with
          | true, true => some (x, y, e, sz, bs)
          | _, _ => none
        | _, _, _ => none
      | _, _ => none
    | _, _, _ => none
  | _ => none

/-- A list of the call's own: how many cells it has, of how many, and which. -/
structure LstOk (sz n cap : Nat) (l xs : List Value) : Prop where
  le : n ≤ cap
  len : l.length = cap * sz
  take : l.take (n * sz) = xs

/-- What is appended to a slice that is full. -/
def appFullT (P : Program) (o : Oper) (σ : St) (V : View) (K : St → View → Prop) : Prop :=
  match appQ P o with
  | some (x, y, _, sz, bs) =>
    match σ.ev x, σ.ev y with
    | .val (.slice a n c), .val (.slice a2 m _) => n = c ∧ ∃ xs vs : List Value, V.has a xs ∧ xs.length = n * sz ∧ V.has a2 vs ∧ vs.length = m * sz ∧ n + m ≤ maxLen ∧ (n + m) * bs ≤ 140737488355328 ∧
        ∀ (ra : Option Addr) (rc : Nat) (V' : View), V.le V' → V'.Fin → n + m ≤ rc → V'.has ra (xs ++ vs) → (n + m ≠ 0 → ra.isSome = true) → K (σ.put o.dst (.val (.slice ra (n + m) rc))) V'
    | _, _ => False
  | none => False

/-- Nothing is known any more of a list's old headers. -/
def killS (id : Nat) : SV → SV
  | .lst i n c => if i = id then .any else .lst i n c
  | .tlst i n c r => if i = id then .any else .tlst i n c r
  | s => s
def killC (id : Nat) : Cs → Cs
  | .fixed l => .fixed (l.map (killS id))
  | .dyn l => .dyn l
  | .list l => .list l
def killO (id : Nat) (o : Option OB) : Option OB := o.map fun ob => ⟨ob.ty, killC id ob.cs⟩
def St.kill (σ : St) (id : Nat) : St := { tm := σ.tm.map (killS id), own := σ.own.map (killO id) }

/-- What is appended to a list of the call's own. -/
def appT (P : Program) (id : Nat) (o : Oper) (σ : St) (V : View) (K : St → View → Prop) : Prop :=
  match appQ P o with
  | some (x, y, e, sz, bs) =>
    match σ.ev x, σ.ev y, σ.own[id]? with
    | .lst i n cap, .val (.slice a2 m _), some (some ⟨e', .list l⟩) =>
      match Nat.beq i id, Nat.beq e' e with
      | true, true => ∃ xs vs : List Value, LstOk sz n cap l xs ∧ V.has a2 vs ∧ vs.length = m * sz ∧ (∀ v ∈ vs, v.oneCell' = true) ∧ n + m ≤ maxLen ∧ (n + m) * bs ≤ 140737488355328 ∧
        ∀ (cap' : Nat) (l' : List Value), LstOk sz (n + m) cap' l' (xs ++ vs) → K (((σ.kill id).setOwn id (some ⟨e, .list l'⟩)).put o.dst (.lst id (n + m) cap')) V
      | _, _ => False
    | _, _, _ => False
  | none => False

def actT (P : Program) (Shp : Shapes) (an : An) (o : Oper) (σ : St) (V : View) (K : St → View → Prop) : Prop :=
  match an.fl with
  | 10 => callT P Shp an.sp o σ V K
  | 11 => buildT P o σ V K
  | 14 => callDT P Shp an.sp o σ V K
  | 13 => appT P an.rt o σ V K
  | 15 => appFullT P o σ V K
  | 17 => makeT P o σ V K
  | 18 => callOT P Shp an.sp an.rt o σ V K
  | 19 => callDST P o σ V K
  | _ => coreT P Shp V an o σ.ev σ.own[an.rt]? fun s ob => fin an.sp s fun s => K ((σ.setOwn an.rt ob).put o.dst s) V

def stepT (P : Program) (Shp : Shapes) (ops : Array Oper) (an : An) (o : Oper) (σ : St) (V : View) (K : St → View → Prop) : Prop :=
  match guardOf ops o σ with
  | some true => actT P Shp an o σ V K
  | some false => K (σ.put o.dst (.val undef)) V
  | none => False

def vcOps (P : Program) (Shp : Shapes) (ops : Array Oper) : List (Oper × An) → St → View → (St → View → Prop) → Prop
  | [], σ, V, K => K σ V
  | (o, an) :: l, σ, V, K => stepT P Shp ops an o σ V fun σ' V' => vcOps P Shp ops l σ' V' K

/-- One operation in the run. -/
def stepW (P : Program) (ops : Array Oper) (o : Oper) (a : Act) (w : World) (N : Act → World → Prop) (Q : Exit → Act → World → Prop) : Prop :=
  if Region.wanted o (yielded ops a.tmps) then o.wp P a w N Q ∨ (o.asks P a w ∧ LetsOut Q) else N (a.put o.dst undef) w

theorem fin_spec {addr own} {sp : Bool} {s : SV} {x : Value} {k : SV → Prop} (hr : Rel addr own s x) (h : fin sp s k) : ∃ s', Rel addr own s' x ∧ k s' := by
  unfold fin at h
  split at h
  · exact ⟨s, hr, h⟩
  · split at h
    · exact ⟨_, hr, h⟩
    · rename_i b
      cases b with
      | true => exact ⟨.lit true, hr, h.1 rfl⟩
      | false => exact ⟨.lit false, hr, h.2 rfl⟩
    · exact h.elim

theorem guardOf_spec {B w0 σ V a w addr} {ops : Array Oper} {o : Oper} {c : Bool} (hc : Conc B w0 σ V a w addr) (h : guardOf ops o σ = some c) :
    Region.wanted o (yielded ops a.tmps) = c := by
  unfold guardOf at h
  unfold Region.wanted
  cases hg : o.guard with
  | none => simp [hg] at h; simp [h]
  | some g =>
    obtain ⟨j, want⟩ := g
    simp only [hg] at h ⊢
    split at h
    · rename_i t ht
      split at h
      · rename_i b hb
        simp at h
        have hlt : t < σ.tm.length := by
          rcases Nat.lt_or_ge t σ.tm.length with h | h
          · exact h
          · simp [List.getD, List.getElem?_eq_none h] at hb
        have hr := hc.rel t hlt
        rw [hb] at hr
        simp only [Rel] at hr
        have h2 : t < a.tmps.size := by rw [hc.size]; exact hlt
        have : a.tmps[t]? = some (.bool b) := by
          rw [Array.getElem?_eq_getElem h2]
          simp [Array.getD_eq_getD_getElem?, h2] at hr
          rw [hr]
        simp [yielded, ht, this, ← h]
      · rename_i vs hb
        simp at h
        have hlt : t < σ.tm.length := by
          rcases Nat.lt_or_ge t σ.tm.length with h | h
          · exact h
          · simp [List.getD, List.getElem?_eq_none h] at hb
        have hr := hc.rel t hlt
        rw [hb] at hr
        simp only [Rel] at hr
        have h2 : t < a.tmps.size := by rw [hc.size]; exact hlt
        have : a.tmps[t]? = some (.tuple vs) := by
          rw [Array.getElem?_eq_getElem h2]
          simp [Array.getD_eq_getD_getElem?, h2] at hr
          rw [hr]
        simp [yielded, ht, this, ← h]
      · simp at h
    · simp at h

theorem Conc.view {B w0 σ V V' a w w' addr} (hc : Conc B w0 σ V a w addr) (hle : V.le V') (hin : V'.In w') (hf : V.fresh w.heap.size V') (hb : Below w.heap.size w w') :
    Conc B w0 σ V' a w' addr := by
  have hlt : ∀ id ob, σ.own.getD id none = some ob → ob.cs.real → addr id < w.heap.size := by
    intro id ob h hre
    obtain ⟨arr, hw, _⟩ := hc.blk id ob h hre
    rcases Nat.lt_or_ge (addr id) w.heap.size with h | h
    · exact h
    · rw [Array.getElem?_eq_none h] at hw; simp at hw
  refine ⟨hc.size, hc.osize, hc.rel, hc.defers, fun id ob h hre => ?_, hc.lo, hc.lent, fun id ob h hre => ?_, hc.inj, hin, hc.below.trans (BelowX.of_below hb), View.fresh_trans hc.fresh hf hc.below.size⟩
  · obtain ⟨arr, hw, hba⟩ := hc.blk id ob h hre
    exact ⟨arr, by rw [hb.block _ (hlt _ _ h hre)]; exact hw, hba⟩
  · cases hv : V' (addr id) with
    | none => rfl
    | some cs =>
      rcases hf _ _ hv with h1 | h1
      · rw [hc.out id ob h hre] at h1; simp at h1
      · have := hlt _ _ h hre; omega

theorem resT_spec {Shp : Shapes} {ts : List TypeId} {v : Value} {k : SV → Prop} (h : resT Shp ts v k) : k (.val v) := by
  unfold resT at h
  split at h
  · obtain ⟨rfl, h⟩ := h; exact h
  · obtain ⟨x, rfl, h⟩ := h; exact h
  · obtain ⟨x, y, rfl, h⟩ := h; exact h
  · obtain ⟨x, y, z, rfl, h⟩ := h; exact h
  · obtain ⟨x, y, z, q, rfl, h⟩ := h; exact h
  · exact h.elim

theorem run_methQ {P : Program} {t : TypeId} {name : String} {f : FuncId} (h : methQ P t name = some f) (x : Value) (n : Nat) (w : World) : (method (n + 1) t x name).run P w = .ok (f, x) w := by
  unfold methQ at h
  split at h
  · rename_i i u hi hu
    split at h
    · rename_i m hm hp
      split at h
      · rename_i g he hf
        simp only [Option.some.injEq] at h
        subst h
        have hpath : m.path = #[] := by simpa using he
        unfold method
        simp only [typeInfo, hi, hm, hpath, hf, receiverAt, Sem.run_bind, Sem.run_pure, Result.andThen_ok, run_program, follow, underlying, hu]
        cases u <;> simp_all [ptrQ, Place.get]
      · simp at h
    · simp at h
  · simp at h

theorem callQ_run {P : Program} {o B w0 σ V a w addr f vs} (hc : Conc B w0 σ V a w addr) (h : callQ P o σ.ev = some (f, vs)) :
    (execOp a.eval o).run P w = .ok (.enter f vs.toArray) w := by
  unfold callQ at h
  split at h
  · rename_i c hop
    split at h
    · rename_i fo hcal
      have hf := hc.eval fo
      split at h
      · rename_i f' first caps hfo
        rw [hfo] at hf
        simp only [Rel] at hf
        split at h
        · rename_i vs' hfirst hcb hvs
          simp only [Option.some.injEq, Prod.mk.injEq] at h
          obtain ⟨rfl, rfl⟩ := h
          unfold callable at hcb
          split at hcb
          · rename_i fn hfn
            simp only [Bool.and_eq_true, Bool.not_eq_true'] at hcb
            have hargs : c.args.map a.eval = vs'.toArray := by
              apply Array.ext'
              simpa using argVals_spec hc.eval hvs
            have hf0 : first = #[] := by apply Array.ext'; simpa using hfirst
            have hbody : fn.body.isNone = false := by cases hb : fn.body <;> simp_all
            have hcat : vs'.toArray ++ caps = (vs' ++ caps.toList).toArray := by apply Array.ext'; simp
            simp only [execOp, hop, resolve, hcal, hargs, hf, hf0, Deferred.ofValue, Sem.run_bind, Sem.run_pure, Result.andThen_ok, invoke, callFunc, run_program]
            simp [hfn, hcb.1, hbody, hcat]
          · simp at hcb
        · simp at h
      · simp at h
    · rename_i r name hcal
      have hf := hc.eval r
      split at h
      · rename_i t x hro
        rw [hro] at hf
        simp only [Rel] at hf
        split at h
        · rename_i g hm
          split at h
          · rename_i vs' hcb hvs
            simp only [Option.some.injEq, Prod.mk.injEq] at h
            obtain ⟨rfl, rfl⟩ := h
            unfold callable at hcb
            split at hcb
            · rename_i fn hfn
              simp only [Bool.and_eq_true, Bool.not_eq_true'] at hcb
              have hargs : c.args.map a.eval = vs'.toArray := by
                apply Array.ext'
                simpa using argVals_spec hc.eval hvs
              have hbody : fn.body.isNone = false := by cases hb : fn.body <;> simp_all
              have hcat : #[x] ++ vs'.toArray = (x :: vs').toArray := by apply Array.ext'; simp
              have hmeth := run_methQ hm x (P.types.size + (Made.depth - 1)) w
              have hdep : P.types.size + (Made.depth - 1) + 1 = P.types.size + Made.depth := by unfold Made.depth; omega
              rw [hdep] at hmeth
              have hext : (#[x] ++ vs'.toArray).extract 1 (#[x] ++ vs'.toArray).size = vs'.toArray := by apply Array.ext'; simp
              simp only [execOp, hop, resolve, hcal, hargs, hf, Sem.run_bind, Sem.run_pure, Result.andThen_ok, invoke, callMethod, callFunc, run_program]
              have hnm : ¬ fn.name = "runtime.NumGoroutine" := by simpa using hcb.1
              have hbd : ¬ fn.body = none := by intro e; rw [e] at hcb; simp at hcb
              simp [hmeth, hfn, hnm, hbd]
            · simp at hcb
          · simp at h
        · simp at h
      · simp at h
    · simp at h
  · simp at h

theorem callT_sound {P : Program} {Shp sp o B w0 σ V a w addr} {K : St → View → Prop} {N : Act → World → Prop} {Q : Exit → Act → World → Prop} (hc : Conc B w0 σ V a w addr)
    (hN : ∀ σ' V' a' w' addr', V.le V' → Conc B w0 σ' V' a' w' addr' → K σ' V' → N a' w') (h : callT P Shp sp o σ V K) : o.wp P a w N Q := by
  unfold callT at h
  split at h
  · rename_i f vs hq
    unfold Oper.wp
    rw [callQ_run hc hq]
    rw [Oper.upon_enter]
    refine (h w hc.vin).mono fun e w' ⟨v, V', he, hle, hin, hf, hb, hk⟩ => ?_
    subst he
    have hk' := resT_spec hk
    obtain ⟨s', hrel, hk''⟩ := fin_spec (addr := addr) (own := σ.own) (x := v) (s := .val v) rfl hk'
    exact hN _ V' _ w' addr hle ((hc.view hle hin hf hb).put o.dst hrel) hk''
  · exact h.elim

theorem callQD_run {P : Program} {o B w0 σ V a w addr f id off len cap vs} (hc : Conc B w0 σ V a w addr) (h : callQD P o σ.ev = some (f, (id, off, len, cap), vs)) :
    (execOp a.eval o).run P w = .ok (.enter f (.slice (some ⟨addr id, off, none⟩) len cap :: vs).toArray) w := by
  unfold callQD at h
  split at h
  · rename_i c hop
    split at h
    · rename_i fo x rest hcal hargs
      have hf := hc.eval fo
      have hx := hc.eval x
      split at h
      · rename_i f' first caps id' off' len' cap' hfo hxo
        rw [hfo] at hf
        rw [hxo] at hx
        simp only [Rel] at hf hx
        split at h
        · rename_i vs' hfirst hcaps hcb hvs
          simp only [Option.some.injEq, Prod.mk.injEq] at h
          obtain ⟨rfl, ⟨rfl, rfl, rfl, rfl⟩, rfl⟩ := h
          unfold callable at hcb
          split at hcb
          · rename_i fn hfn
            simp only [Bool.and_eq_true, Bool.not_eq_true'] at hcb
            have hargs : c.args.map a.eval = (.slice (some ⟨addr id', off', none⟩) len' cap' :: vs').toArray := by
              apply Array.ext'
              have := argVals_spec hc.eval hvs
              simp [hargs, hx.2, this]
            have hf0 : first = #[] := by apply Array.ext'; simpa using hfirst
            have hc0 : caps = #[] := by apply Array.ext'; simpa using hcaps
            have hbody : fn.body.isNone = false := by cases hb : fn.body <;> simp_all
            simp only [execOp, hop, resolve, hcal, hargs, hf, hf0, hc0, Deferred.ofValue, Sem.run_bind, Sem.run_pure, Result.andThen_ok, invoke, callFunc, run_program]
            simp [hfn, hcb.1, hbody]
          · simp at hcb
        · simp at h
      · simp at h
    · simp at h
  · simp at h

/-- A block of the call's own has been written by somebody else. -/
theorem Conc.lentBlk {B w0 σ V V' a w w' addr} (hc : Conc B w0 σ V a w addr) {id : Nat} {ob : OB} (hid : σ.own[id]? = some (some ob)) (hre : ob.cs.real) (l' : List Value) (hkd : kind (some ⟨ob.ty, .dyn l'⟩) = kind (some ob))
    (hle : V.le V') (hin : V'.In w') (hf : V.fresh w.heap.size V') (hb : BelowX [addr id] w w') (hw' : w'.heap[addr id]? = some (.cells l'.toArray ob.ty (0, 0))) (hn : V' (addr id) = none) :
    Conc B w0 (σ.setOwn id (some ⟨ob.ty, .dyn l'⟩)) V' a w' addr := by
  have hg := getD_of hid
  have hlt : id < σ.own.length := by
    rcases Nat.lt_or_ge id σ.own.length with h | h
    · exact h
    · rw [List.getElem?_eq_none h] at hid; simp at hid
  have hget : ∀ i, (σ.setOwn id (some ⟨ob.ty, .dyn l'⟩)).own.getD i none = if i = id then some ⟨ob.ty, .dyn l'⟩ else σ.own.getD i none := by
    intro i
    simp only [St.setOwn, List.getD, List.getElem?_set]
    by_cases e : id = i
    · subst e; simp [hlt]
    · have e' : ¬ i = id := fun x => e x.symm
      simp [e, e']
  have hmono : ∀ i, kind (σ.own.getD i none) ≠ 0 → kind ((σ.setOwn id (some ⟨ob.ty, .dyn l'⟩)).own.getD i none) = kind (σ.own.getD i none) ∧ addr i = addr i := by
    intro i h
    rw [hget]; split
    · rename_i e; subst e; rw [hg]; exact ⟨hkd, rfl⟩
    · exact ⟨rfl, rfl⟩
  have hsome : ∀ i ob', (σ.setOwn id (some ⟨ob.ty, .dyn l'⟩)).own.getD i none = some ob' → ob'.cs.real → ∃ ob'', σ.own.getD i none = some ob'' ∧ ob''.cs.real := by
    intro i ob' h hr
    rw [hget] at h
    split at h
    · rename_i e; exact ⟨ob, e ▸ hg, hre⟩
    · exact ⟨_, h, hr⟩
  have hltw : ∀ i ob', σ.own.getD i none = some ob' → ob'.cs.real → addr i < w.heap.size := by
    intro i ob' h hr
    obtain ⟨arr, hw, _⟩ := hc.blk i ob' h hr
    rcases Nat.lt_or_ge (addr i) w.heap.size with h | h
    · exact h
    · rw [Array.getElem?_eq_none h] at hw; simp at hw
  refine ⟨hc.size, by simp [St.setOwn, hc.osize], fun i hi => Rel.own_mono hmono (hc.rel i hi), hc.defers, ?_, ?_, ?_, ?_, ?_, hin, ?_, View.fresh_trans hc.fresh hf hc.below.size⟩
  · intro i ob' h hr
    rw [hget] at h
    split at h
    · rename_i e; cases h; subst e
      exact ⟨l'.toArray, hw', rfl⟩
    · rename_i e
      obtain ⟨arr', hw, hb'⟩ := hc.blk i ob' h hr
      refine ⟨arr', ?_, BlkAt.own_mono hmono hb'⟩
      rw [hb.block _ (hltw _ _ h hr)]
      · exact hw
      · simp only [List.mem_singleton]; intro he; exact e (hc.inj _ _ _ _ h hg hr hre he)
  · intro i ob' h hr
    obtain ⟨ob'', h'', hr''⟩ := hsome _ _ h hr
    exact hc.lo i ob'' h'' hr''
  · intro p hp
    obtain ⟨h1, h2⟩ := hc.lent p hp
    exact ⟨h1, by rw [(hmono _ (by omega)).1]; exact h2⟩
  · intro i ob' h hr
    by_cases e : i = id
    · subst e; exact hn
    · rw [hget, if_neg e] at h
      cases hv : V' (addr i) with
      | none => rfl
      | some cs =>
        rcases hf _ _ hv with h1 | h1
        · rw [hc.out i ob' h hr] at h1; simp at h1
        · have := hltw _ _ h hr; omega
  · intro i i' ob1 ob2 h1 h2 hr1 hr2 he
    obtain ⟨_, h1', hr1'⟩ := hsome _ _ h1 hr1
    obtain ⟨_, h2', hr2'⟩ := hsome _ _ h2 hr2
    exact hc.inj _ _ _ _ h1' h2' hr1' hr2' he
  · refine ⟨hb.os.trans hc.below.os, hb.tape.trans hc.below.tape, hb.output.trans hc.below.output, Nat.le_trans hc.below.size hb.size, fun k hk hn' => ?_⟩
    rw [hb.block k (Nat.lt_of_lt_of_le hk hc.below.size), hc.below.block k hk hn']
    simp only [List.mem_singleton]
    rintro rfl
    rcases hc.lo id ob hg hre with h | h
    · omega
    · exact hn' h

theorem callDT_sound {P : Program} {Shp sp o B w0 σ V a w addr} {K : St → View → Prop} {N : Act → World → Prop} {Q : Exit → Act → World → Prop} (hc : Conc B w0 σ V a w addr)
    (hN : ∀ σ' V' a' w' addr', V.le V' → Conc B w0 σ' V' a' w' addr' → K σ' V' → N a' w') (h : callDT P Shp sp o σ V K) : o.wp P a w N Q := by
  unfold callDT at h
  split at h
  · rename_i f id off len cap vs hq
    split at h
    · rename_i ty l hob
      have hg := getD_of hob
      obtain ⟨arr, hw, hba⟩ := hc.blk id _ hg trivial
      simp only [BlkAt] at hba
      subst hba
      unfold Oper.wp
      rw [callQD_run hc hq]
      rw [Oper.upon_enter]
      refine (h w (addr id) hc.vin hw (hc.out id _ hg trivial)).mono fun e w' ⟨v, V', l', he, hle, hin, hf, hb, hw', hn, hk⟩ => ?_
      subst he
      have hk' := resT_spec hk
      have hc' := hc.lentBlk hob trivial l' rfl hle hin hf hb hw' hn
      obtain ⟨s', hrel, hk''⟩ := fin_spec (addr := addr) (own := (σ.setOwn id (some ⟨ty, .dyn l'⟩)).own) (x := v) (s := .val v) rfl hk'
      exact hN _ V' _ w' addr hle (hc'.put o.dst hrel) hk''
    · exact h.elim
  · exact h.elim

theorem does_wp {P : Program} {o B w0 V a w σ' s} {k : St → SV → Prop} {N : Act → World → Prop} {Q : Exit → Act → World → Prop} (hd : Does P o B w0 V a w σ' s) (hk : k σ' s)
    (hN : ∀ x w' addr', Conc B w0 σ' V a w' addr' → Rel addr' σ'.own s x → k σ' s → N (a.put o.dst x) w') : o.wp P a w N Q := by
  obtain ⟨x, nx, w', addr', hrun, hnx, hc', hr⟩ := hd
  unfold Oper.wp
  rw [hrun]
  rcases hnx with rfl | ⟨rfl, rfl⟩
  · rw [Oper.upon_value]; exact hN x w' addr' hc' hr hk
  · rw [Oper.upon_skip]; exact hN _ w' addr' hc' hr hk

theorem View.set_le {V : View} {b : Nat} {cs : Array Value} (h : V b = none) : V.le (fun i => if i = b then some cs else V i) := by
  intro i ds hi
  by_cases e : i = b
  · subst e; rw [h] at hi; simp at hi
  · simp [e, hi]

theorem buildC_run {P : Program} {o B w0 σ V a w addr cells n} (hc : Conc B w0 σ V a w addr) (h : buildC P o σ.ev = some (cells, n)) :
    ∃ e, (execOp a.eval o).run P w = .ok (.value (.slice (some ⟨w.heap.size, 0, none⟩) n n)) (w.alloc (.cells cells e)) := by
  unfold buildC at h
  split at h
  · rename_i t n parts hop
    split at h
    · rename_i e he
      split at h
      · rename_i zs sz hzs hsz hall
        split at h
        · rename_i cells' hle hlen hfill
          simp only [Option.some.injEq, Prod.mk.injEq] at h
          obtain ⟨rfl, rfl⟩ := h
          refine ⟨e, ?_⟩
          have hle := Nat.le_of_ble_eq_true hle
          have hlen := Nat.eq_of_beq_eq_true hlen
          obtain ⟨z, hz, hzl⟩ := run_zerosQ hzs w
          have hparts : (parts.map fun (i, x) => (i, a.eval x)).toList = parts.toList.map fun p => (p.1, rho σ.ev p.2) := by
            rw [Array.toList_map]
            refine List.map_congr_left fun p hp => ?_
            have := List.all_eq_true.1 hall p hp
            obtain ⟨v, hv⟩ := Option.isSome_iff_exists.1 this
            simp [(hc.eval p.2).asVal hv, rho, hv]
          have hmade : (Array.range (n * sz)).map (z.cells[· % z.cells.size]!) = (List.replicate n zs).flatten.toArray := by
            have := made_flatten z.cells n
            rw [hzl, hlen] at this
            exact this
          have hgt : ¬ (16777216 < n * sz) := by omega
          by_cases h0 : n * sz = 0
          · have hm0 : (List.replicate n zs).flatten.toArray = #[] := by rw [← hmade, h0]; simp
            rw [hm0] at hfill
            simp only [execOp, hop, Instr.buildSlice, Sem.run_bind, run_underlying (elemQ_spec he), Result.andThen_ok, run_sizeQ hsz]
            simp only [hparts]
            simp [hgt, h0, hfill, newRow, Array.range_zero']
          · simp only [execOp, hop, Instr.buildSlice, Sem.run_bind, run_underlying (elemQ_spec he), Result.andThen_ok, run_sizeQ hsz]
            simp only [hparts, hmade]
            simp [hgt, h0, hz, hmade, hfill, newRow]
        · simp at h
      · simp at h
    · simp at h
  · simp at h

theorem buildT_sound {P : Program} {o B w0 σ V a w addr} {K : St → View → Prop} {N : Act → World → Prop} {Q : Exit → Act → World → Prop} (hc : Conc B w0 σ V a w addr)
    (hN : ∀ σ' V' a' w' addr', V.le V' → Conc B w0 σ' V' a' w' addr' → K σ' V' → N a' w') (h : buildT P o σ V K) : o.wp P a w N Q := by
  unfold buildT at h
  split at h
  · rename_i cells n hC
    obtain ⟨e, hrun⟩ := buildC_run hc hC
    have hnone : V w.heap.size = none := by
      cases hv : V w.heap.size with
      | none => rfl
      | some cs => obtain ⟨T, fr, hw⟩ := hc.vin _ _ hv; simp at hw
    unfold Oper.wp
    rw [hrun, Oper.upon_value]
    let V' : View := fun i => if i = w.heap.size then some cells else V i
    have hle' : V.le V' := View.set_le hnone
    have hin : V'.In (w.alloc (.cells cells e)) := by
      intro b cs hb
      by_cases eb : b = w.heap.size
      · subst eb
        simp [V'] at hb; subst hb
        exact ⟨e, _, heap_alloc_new _ _⟩
      · simp [V', eb] at hb
        obtain ⟨T, fr, hw⟩ := hc.vin b cs hb
        have : b < w.heap.size := by
          rcases Nat.lt_or_ge b w.heap.size with h | h
          · exact h
          · rw [Array.getElem?_eq_none h] at hw; simp at hw
        exact ⟨T, fr, by rw [heap_alloc_old _ _ _ this]; exact hw⟩
    have hf : V.fresh w.heap.size V' := by
      intro b cs hb
      by_cases eb : b = w.heap.size
      · exact .inr (by omega)
      · simp [V', eb] at hb; exact .inl hb
    have hb : Below w.heap.size w (w.alloc (.cells cells e)) := (Below.refl _ _).alloc (Nat.le_refl _) _
    exact hN _ V' _ _ addr hle' ((hc.view hle' hin hf hb).put o.dst (s := .val (.slice (some ⟨w.heap.size, 0, none⟩) n n)) rfl) (h w.heap.size V' hle' hin.fin (by simp [V']))
  · exact h.elim

theorem View.In.none_new {V : View} {w : World} (h : V.In w) : V w.heap.size = none := by
  cases hv : V w.heap.size with
  | none => rfl
  | some cs => obtain ⟨T, fr, hw⟩ := h _ _ hv; simp at hw

/-- A new block that is known at once. -/
theorem Conc.newKnown {B w0 σ V a w addr} (hc : Conc B w0 σ V a w addr) (w1 : World) (hw1 : w1.heap = w.heap ∧ w1.os = w.os ∧ w1.tape = w.tape ∧ w1.output = w.output) (cells : Array Value) (e : TypeId) :
    ∃ V' : View, V.le V' ∧ V'.Fin ∧ V' w.heap.size = some cells ∧ Conc B w0 σ V' a (w1.alloc (.cells cells e)) addr := by
  obtain ⟨h1, h2, h3, h4⟩ := hw1
  have hsz : w1.heap.size = w.heap.size := by rw [h1]
  let V' : View := fun i => if i = w.heap.size then some cells else V i
  have hle' : V.le V' := View.set_le hc.vin.none_new
  have hold : ∀ b, b < w.heap.size → (w1.alloc (.cells cells e)).heap[b]? = w.heap[b]? := fun b hb => by rw [heap_alloc_old _ _ _ (by omega), h1]
  have hin : V'.In (w1.alloc (.cells cells e)) := by
    intro b cs hb
    by_cases eb : b = w.heap.size
    · subst eb
      simp [V'] at hb; subst hb
      exact ⟨e, _, by rw [← hsz]; exact heap_alloc_new _ _⟩
    · simp [V', eb] at hb
      obtain ⟨T, fr, hw⟩ := hc.vin b cs hb
      have : b < w.heap.size := by
        rcases Nat.lt_or_ge b w.heap.size with h | h
        · exact h
        · rw [Array.getElem?_eq_none h] at hw; simp at hw
      exact ⟨T, fr, by rw [hold _ this]; exact hw⟩
  have hf : V.fresh w.heap.size V' := by
    intro b cs hb
    by_cases eb : b = w.heap.size
    · exact .inr (by omega)
    · simp [V', eb] at hb; exact .inl hb
  have hb : Below w.heap.size w (w1.alloc (.cells cells e)) := ⟨h2, h3, h4, by simp [hsz], fun k hk => hold k hk⟩
  exact ⟨V', hle', hin.fin, by simp [V'], hc.view hle' hin hf hb⟩

theorem makeT_sound {P : Program} {o B w0 σ V a w addr} {K : St → View → Prop} {N : Act → World → Prop} {Q : Exit → Act → World → Prop} (hc : Conc B w0 σ V a w addr)
    (hN : ∀ σ' V' a' w' addr', V.le V' → Conc B w0 σ' V' a' w' addr' → K σ' V' → N a' w') (h : makeT P o σ V K) : o.wp P a w N Q := by
  unfold makeT at h
  split at h
  · rename_i t n c hop
    split at h
    · rename_i e kn ln kc cp he hn hcp
      split at h
      · rename_i zs sz bs hzs hsz hbs
        obtain ⟨⟨h0, h1, h2, h3⟩, h⟩ := h
        split at h
        · rename_i hlen
          have hlen : zs.length = sz := Nat.eq_of_beq_eq_true hlen
          have ht := elemQ_spec he
          unfold zerosQ at hzs
          cases hi : P.info? e with
          | none => simp [hi] at hzs
          | some i =>
            cases hz : i.zero with
            | none => simp [hi, hz] at hzs
            | some z =>
              simp only [hi, hz, Option.bind_some, Option.map_some, Option.some.injEq] at hzs
              simp only [sizeQ, hi, Option.map_some, Option.some.injEq] at hsz
              simp only [bytesQ, hi, Option.map_some, Option.some.injEq] at hbs
              subst hsz; subst hbs; subst hzs
              have hrn := hc.eval n
              have hrc := hc.eval c
              rw [hn] at hrn; rw [hcp] at hrc
              simp only [Rel] at hrn hrc
              have hrun := run_make (P := P) w t e i z ht hi hz kn kc ln cp h0 h1 h2 h3
              have hcells : madeCells z.cells (cp.toNat * i.size) = List.toArray (List.replicate cp.toNat z.cells.toList).flatten := by
                rw [← hlen]; exact made_flatten _ _
              rw [hcells] at hrun
              obtain ⟨V', hle, hfin, hb, hc'⟩ := hc.newKnown w ⟨rfl, rfl, rfl, rfl⟩ (List.toArray (List.replicate cp.toNat z.cells.toList).flatten) e
              unfold Oper.wp
              have hex : (execOp a.eval o).run P w = .ok (.value (.slice (some ⟨w.heap.size, 0, none⟩) ln.toNat cp.toNat)) (w.alloc (.cells (List.toArray (List.replicate cp.toNat z.cells.toList).flatten) e)) := by
                simp only [execOp, hop, hrn, hrc, Sem.run_bind, hrun, Result.andThen_ok, Sem.run_pure]
              rw [hex, Oper.upon_value]
              exact hN _ V' _ _ addr hle (hc'.put o.dst (s := .val _) rfl) (h _ V' hle hfin hb)
        · exact h.elim
      · exact h.elim
    · exact h.elim
  · exact h.elim

/-- What an append comes to: in place, or in a new block. -/
theorem appQ_spec {P : Program} {o : Oper} {x y : Operand} {e : TypeId} {sz bs : Nat} (h : appQ P o = some (x, y, e, sz, bs)) :
    ∃ (t : TypeId) (i : TypeInfo) (z : Value), o.op = .call { callee := .builtin .append, args := #[x, y], argTypes := #[t, t] } ∧ P.underlying t = some (.slice e) ∧ P.info? e = some i ∧ i.zero = some z ∧ i.size = sz ∧ i.bytes = bs ∧
      z.cells.size = sz ∧ 1 ≤ sz := by
  unfold appQ at h
  split at h
  · rename_i c hop
    split at h
    · rename_i x' y' t u hcal hargs htys
      split at h
      · rename_i e' htu he
        split at h
        · rename_i zs sz' bs' hzs hsz hbs
          split at h
          · rename_i hlen h1
            simp only [Option.some.injEq, Prod.mk.injEq] at h
            obtain ⟨rfl, rfl, rfl, rfl, rfl⟩ := h
            have htu := Nat.eq_of_beq_eq_true htu
            have hlen := Nat.eq_of_beq_eq_true hlen
            have h1 := Nat.le_of_ble_eq_true h1
            subst htu
            obtain ⟨callee, args, argTypes⟩ := c
            simp only at hcal hargs htys
            have a1 : args = #[x', y'] := by apply Array.ext'; simpa using hargs
            have a2 : argTypes = #[t, t] := by apply Array.ext'; simpa using htys
            subst hcal; subst a1; subst a2
            unfold zerosQ at hzs
            cases hi : P.info? e' with
            | none => simp [hi] at hzs
            | some i =>
              cases hz : i.zero with
              | none => simp [hi, hz] at hzs
              | some z =>
                simp only [hi, hz, Option.bind_some, Option.map_some, Option.some.injEq] at hzs
                simp only [sizeQ, hi, Option.map_some, Option.some.injEq] at hsz
                simp only [bytesQ, hi, Option.map_some, Option.some.injEq] at hbs
                exact ⟨t, i, z, hop, elemQ_spec he, rfl, hz, hsz, hbs, by rw [← hlen, ← hzs]; simp, h1⟩
          · simp at h
        · simp at h
      · simp at h
    · simp at h
  · simp at h

theorem run_append_none {P : Program} (w : World) (t ty e : TypeId) (i : TypeInfo) (ht : P.underlying t = some (.slice e)) (hi : P.info? e = some i) (a : Option Addr) (n c : Nat) (a2 : Option Addr) (c2 : Nat) (h : n ≤ c) :
    (Builtin.append_ #[t, t] ty #[.slice a n c, .slice a2 0 c2]).run P w = .ok (.slice a n c) w := by
  cases a2 <;> cases a <;> simp [Builtin.append_, run_underlying ht, sizeOf, typeInfo, hi, Builtin.lenOf, Builtin.firstCells, loadCells, loadCellsFrom, storeCells, h]

theorem exec_append {P : Program} {o : Oper} {x y : Operand} {t : TypeId} {ρ : Operand → Value} {w w' : World} {v : Value} (ho : o.op = .call { callee := .builtin .append, args := #[x, y], argTypes := #[t, t] })
    (h : (Builtin.append_ #[t, t] o.type #[ρ x, ρ y]).run P w = .ok v w') : (execOp ρ o).run P w = .ok (.value v) w' := by
  unfold execOp
  simp only [ho, resolve, invoke, builtin, Sem.run_bind, Sem.run_pure, Result.andThen_ok, List.map_toArray, List.map_cons, List.map_nil, h]

theorem has_cells {V : View} {w : World} (hin : V.In w) {A : Addr} {l : List Value} (h : V.has (some A) l) : ∀ j v, l[j]? = some v → w.cell? (A.add j) = some v :=
  fun j v hv => View.load_cell hin (h j v hv)

theorem grown_toArray (xs vs : List Value) (z : Array Value) (k : Nat) : ∃ l : List Value, xs.toArray ++ vs.toArray ++ Builtin.zeroCells z k = l.toArray ∧ l.length = xs.length + vs.length + k * z.size ∧ l.take (xs.length + vs.length) = xs ++ vs := by
  refine ⟨xs ++ vs ++ (Builtin.zeroCells z k).toList, by apply Array.ext'; simp, by simp [size_zeroCells, Nat.add_assoc], ?_⟩
  rw [← List.length_append]; exact List.take_left

theorem appFullT_sound {P : Program} {o B w0 σ V a w addr} {K : St → View → Prop} {N : Act → World → Prop} {Q : Exit → Act → World → Prop} (hc : Conc B w0 σ V a w addr)
    (hN : ∀ σ' V' a' w' addr', V.le V' → Conc B w0 σ' V' a' w' addr' → K σ' V' → N a' w') (h : appFullT P o σ V K) : o.wp P a w N Q := by
  unfold appFullT at h
  split at h
  · rename_i x y e sz bs hq
    obtain ⟨t, i, z, hop, ht, hi, hz, hsize, hby, hzs, h1⟩ := appQ_spec hq
    have hx := hc.eval x
    have hy := hc.eval y
    split at h
    · rename_i ax n c ay m cy ex ey
      rw [ex] at hx; rw [ey] at hy
      simp only [Rel] at hx hy
      obtain ⟨rfl, xs, vs, hxs, hxl, hvs, hvl, h63, hb, h⟩ := h
      have hml : n + m ≤ 9223372036854775807 := by simp only [maxLen] at h63; omega
      unfold Oper.wp
      by_cases hm : m = 0
      · subst hm
        have hv0 : vs = [] := List.eq_nil_of_length_eq_zero (by simpa using hvl)
        subst hv0
        have hr := exec_append (P := P) (ρ := a.eval) (w := w) hop (by rw [hx, hy]; exact run_append_none w t o.type e i ht hi ax n n ay cy (Nat.le_refl _))
        rw [hr, Oper.upon_value]
        have hk := h ax n V (View.le_refl V) hc.vin.fin (by omega) (by simpa using hxs) (fun h0 => by
          cases ax with
          | some A => rfl
          | none =>
            have hn0 : n * sz ≠ 0 := Nat.mul_ne_zero (by simpa using h0) (by omega)
            cases xs with
            | nil => simp at hxl; omega
            | cons v l => have := hxs 0 v rfl; simp [View.load] at this)
        exact hN _ V _ _ addr (View.le_refl V) (hc.put o.dst (s := .val _) rfl) hk
      · have hms : m * sz ≠ 0 := Nat.mul_ne_zero hm (by omega)
        cases ay with
        | none =>
          cases vs with
          | nil => simp at hvl; omega
          | cons v l => have := hvs 0 v rfl; simp [View.load] at this
        | some A =>
          have hnews := has_cells hc.vin hvs
          -- the new block
          have fin : ∀ (cells : Array Value) (cap : Nat), n + m ≤ cap → (∃ l : List Value, cells = l.toArray ∧ l.take (n * sz + m * sz) = xs ++ vs) →
              (execOp a.eval o).run P w = .ok (.value (.slice (some ⟨w.heap.size, 0, none⟩) (n + m) cap)) (w.drew.alloc (.cells cells e)) → Oper.upon P o a N Q ((execOp a.eval o).run P w) := by
            intro cells cap hcap ⟨l, hl, htake⟩ hr
            obtain ⟨V', hle, hfin, hb', hc'⟩ := hc.newKnown w.drew ⟨rfl, rfl, rfl, rfl⟩ cells e
            rw [hr, Oper.upon_value]
            refine hN _ V' _ _ addr hle (hc'.put o.dst (s := .val _) rfl) (h _ cap V' hle hfin hcap ?_ (fun _ => rfl))
            intro j v hv
            have hadd : Option.map (fun q => Addr.add q j) (some (⟨w.heap.size, 0, none⟩ : Addr)) = some ⟨w.heap.size, j, none⟩ := by
              simp only [Option.map_some]; congr 1; unfold Addr.add; split <;> simp_all
            rw [hadd]
            simp only [View.load, hb', hl]
            rw [← htake, List.getElem?_take] at hv
            split at hv
            · simpa using hv
            · cases hv
          cases ax with
          | none =>
            have hn0 : n = 0 := by
              rcases Nat.eq_zero_or_pos n with h0 | h0
              · exact h0
              · exfalso
                have hns : n * sz ≠ 0 := Nat.mul_ne_zero (by omega) (by omega)
                cases xs with
                | nil => simp at hxl; omega
                | cons v l => have := hxs 0 v rfl; simp [View.load] at this
            subst hn0
            have hx0 : xs = [] := List.eq_nil_of_length_eq_zero (by simpa using hxl)
            subst hx0
            have hrun := run_append_nil (P := P) w t o.type e i z ht hi hz A m cy vs (by rw [hsize]; exact hvl) hnews (by omega) (by omega) (by rw [hby]; rw [Nat.zero_add] at hb; omega)
            have hr := exec_append (P := P) (ρ := a.eval) (w := w) hop (by rw [hx, hy]; exact hrun)
            obtain ⟨l, hl1, _, hl3⟩ := grown_toArray [] vs z.cells (grownCap w m 0 e - m)
            refine fin _ _ ?_ ⟨l, ?_, ?_⟩ (by rw [Nat.zero_add]; exact hr)
            · rw [Nat.zero_add]; exact grownCap_ge w m 0 e
            · simpa using hl1
            · simp only [List.length_nil, Nat.zero_add, List.nil_append] at hl3
              rw [Nat.zero_mul, Nat.zero_add, ← hvl]; simpa using hl3
          | some A0 =>
            have hrun := run_append_grow (P := P) w t o.type e i z ht hi hz A0 n n xs (by rw [hsize]; exact hxl) (has_cells hc.vin hxs) A m cy vs (by rw [hsize]; exact hvl) hnews (by omega) (by omega) (by rw [hby]; exact growslice_fits (by omega) hb)
            have hr := exec_append (P := P) (ρ := a.eval) (w := w) hop (by rw [hx, hy]; exact hrun)
            obtain ⟨l, hl1, _, hl3⟩ := grown_toArray xs vs z.cells (grownCap w (n + m) n e - (n + m))
            refine fin _ _ (grownCap_ge w (n + m) n e) ⟨l, hl1, ?_⟩ hr
            rw [← hxl, ← hvl]; exact hl3
    · exact h.elim
  · exact h.elim

theorem kind_killO (id : Nat) (o : Option OB) : kind (killO id o) = kind o := by
  cases o with
  | none => rfl
  | some ob => obtain ⟨ty, cs⟩ := ob; cases cs <;> rfl
theorem Rel.kill {addr : Nat → Nat} {own : List (Option OB)} {id : Nat} {s : SV} {x : Value} (h : Rel addr own s x) : Rel addr own (killS id s) x := by
  cases s with
  | lst i n c => simp only [killS]; split
                 · trivial
                 · exact h
  | tlst i n c r => simp only [killS]; split
                    · trivial
                    · exact h
  | _ => exact h
/-- A symbolic value that names a list no more. -/
def noL (id : Nat) (s : SV) : Prop := (∀ n c, s ≠ .lst id n c) ∧ ∀ n c r, s ≠ .tlst id n c r
theorem noL_kill (id : Nat) (s : SV) : noL id (killS id s) := by
  constructor
  · intro n c
    cases s with
    | lst i m d => simp only [killS]; split
                   · simp
                   · rename_i hne; intro e; cases e; exact hne rfl
    | tlst i m d r => simp only [killS]; split <;> simp
    | _ => simp [killS]
  · intro n c r'
    cases s with
    | lst i m d => simp only [killS]; split <;> simp
    | tlst i m d r => simp only [killS]; split
                      · simp
                      · rename_i hne; intro e; cases e; exact hne rfl
    | _ => simp [killS]

theorem Conc.kill {B w0 σ V a w addr} (hc : Conc B w0 σ V a w addr) (id : Nat) : Conc B w0 (σ.kill id) V a w addr := by
  have hget : ∀ i, (σ.kill id).own.getD i none = killO id (σ.own.getD i none) := by
    intro i
    simp only [St.kill, List.getD, List.getElem?_map]
    cases σ.own[i]? <;> rfl
  have hk : ∀ i, kind ((σ.kill id).own.getD i none) = kind (σ.own.getD i none) := fun i => by rw [hget, kind_killO]
  have hmono : ∀ i, kind (σ.own.getD i none) ≠ 0 → kind ((σ.kill id).own.getD i none) = kind (σ.own.getD i none) ∧ addr i = addr i := fun i _ => ⟨hk i, rfl⟩
  have hold : ∀ i ob', (σ.kill id).own.getD i none = some ob' → ob'.cs.real → ∃ ob0, σ.own.getD i none = some ob0 ∧ ob' = ⟨ob0.ty, killC id ob0.cs⟩ ∧ ob0.cs.real := by
    intro i ob' h hre
    rw [hget] at h
    obtain ⟨ob0, h0, rfl⟩ := Option.map_eq_some_iff.1 h
    refine ⟨ob0, h0, rfl, ?_⟩
    obtain ⟨ty, cs⟩ := ob0
    cases cs with
    | fixed l => trivial
    | dyn l => trivial
    | list l => exact hre
  refine ⟨by simp [St.kill, hc.size], by simp [St.kill, hc.osize], fun i hi => ?_, hc.defers, fun i ob' h hre => ?_, fun i ob' h hre => ?_, fun p hp => ⟨(hc.lent p hp).1, by rw [hk]; exact (hc.lent p hp).2⟩, fun i ob' h hre => ?_,
    fun i i' ob1 ob2 h1 h2 hr1 hr2 => ?_, hc.vin, hc.below, hc.fresh⟩
  · have hi' : i < σ.tm.length := by simpa [St.kill] using hi
    have := (Rel.own_mono hmono (hc.rel i hi')).kill (id := id)
    simpa [St.kill, List.getD, hi'] using this
  · obtain ⟨ob0, h0, rfl, hre0⟩ := hold i ob' h hre
    obtain ⟨arr', hw', hb'⟩ := hc.blk i ob0 h0 hre0
    refine ⟨arr', hw', ?_⟩
    obtain ⟨ty, cs⟩ := ob0
    cases cs with
    | dyn l' => exact hb'
    | list l' => exact hb'
    | fixed l' =>
      refine ⟨by simpa using hb'.1, fun j hj => ?_⟩
      have hj' : j < l'.length := by simpa using hj
      have := (Rel.own_mono hmono (hb'.2 j hj')).kill (id := id)
      simpa [List.getD, hj'] using this
  · obtain ⟨ob0, h0, _, hre0⟩ := hold i ob' h hre
    exact hc.lo i ob0 h0 hre0
  · obtain ⟨ob0, h0, _, hre0⟩ := hold i ob' h hre
    exact hc.out i ob0 h0 hre0
  · obtain ⟨ob1', h1', _, hr1'⟩ := hold i ob1 h1 hr1
    obtain ⟨ob2', h2', _, hr2'⟩ := hold i' ob2 h2 hr2
    exact hc.inj i i' ob1' ob2' h1' h2' hr1' hr2'

/-- A list moves to a new block. -/
theorem Conc.moveBlk {B w0 σ V a w addr} (hc : Conc B w0 σ V a w addr) {id : Nat} {e : TypeId} {l0 : List Value} (hid : σ.own[id]? = some (some ⟨e, .list l0⟩)) (hno : ∀ s ∈ σ.tm, noL id s)
    (hno2 : ∀ ty l, some ⟨ty, .fixed l⟩ ∈ σ.own → ∀ s ∈ l, noL id s) (l : List Value) :
    Conc B w0 (σ.setOwn id (some ⟨e, .list l⟩)) V a (w.drew.alloc (.cells l.toArray e)) (fun i => if i = id then w.heap.size else addr i) := by
  have hg := getD_of hid
  have hlt : id < σ.own.length := by
    rcases Nat.lt_or_ge id σ.own.length with h | h
    · exact h
    · rw [List.getElem?_eq_none h] at hid; simp at hid
  have hget : ∀ i, (σ.setOwn id (some ⟨e, .list l⟩)).own.getD i none = if i = id then some ⟨e, .list l⟩ else σ.own.getD i none := by
    intro i
    simp only [St.setOwn, List.getD, List.getElem?_set]
    by_cases e' : id = i
    · subst e'; simp [hlt]
    · have e'' : ¬ i = id := fun x => e' x.symm
      simp [e', e'']
  have hkid : kind (σ.own.getD id none) = 2 := by rw [hg]; rfl
  have hk : ∀ i, kind ((σ.setOwn id (some ⟨e, .list l⟩)).own.getD i none) = kind (σ.own.getD i none) := by
    intro i; rw [hget]; split
    · rename_i h; subst h; rw [hg]; rfl
    · rfl
  have hrel : ∀ {s : SV} {x : Value}, noL id s → Rel addr σ.own s x → Rel (fun i => if i = id then w.heap.size else addr i) (σ.setOwn id (some ⟨e, .list l⟩)).own s x := by
    intro s x hn h
    have h1 : ∀ {i}, kind (σ.own.getD i none) = 1 → i ≠ id := by rintro i h rfl; rw [hkid] at h; simp at h
    cases s with
    | val v => exact h
    | lit b => exact h
    | own i off => exact ⟨by rw [hk]; exact h.1, by simp only [h1 h.1, if_false]; exact h.2⟩
    | osl i off len cap => exact ⟨by rw [hk]; exact h.1, by simp only [h1 h.1, if_false]; exact h.2⟩
    | clo f ids =>
      refine ⟨fun i hi => by rw [hk]; exact h.1 i hi, ?_⟩
      rw [h.2]
      congr 2
      exact List.map_congr_left fun i hi => by simp only [h1 (h.1 i hi), if_false]
    | lst i n c =>
      have hne : i ≠ id := by rintro rfl; exact hn.1 n c rfl
      exact ⟨by rw [hk]; exact h.1, by simp only [hne, if_false]; exact h.2⟩
    | tlst i n c r =>
      have hne : i ≠ id := by rintro rfl; exact hn.2 n c r rfl
      exact ⟨by rw [hk]; exact h.1, by simp only [hne, if_false]; exact h.2⟩
    | any => trivial
  have hltw : ∀ i ob', σ.own.getD i none = some ob' → ob'.cs.real → addr i < w.heap.size := by
    intro i ob' h hre
    obtain ⟨arr', hw, _⟩ := hc.blk i ob' h hre
    rcases Nat.lt_or_ge (addr i) w.heap.size with h | h
    · exact h
    · rw [Array.getElem?_eq_none h] at hw; simp at hw
  have hsz : w.drew.heap.size = w.heap.size := rfl
  have hnew : (w.drew.alloc (.cells l.toArray e)).heap[w.heap.size]? = some (.cells l.toArray e (0, 0)) := heap_alloc_new w.drew _
  have hold : ∀ b, b < w.heap.size → (w.drew.alloc (.cells l.toArray e)).heap[b]? = w.heap[b]? := fun b hb => heap_alloc_old w.drew _ _ hb
  refine ⟨hc.size, by simp [St.setOwn, hc.osize], fun i hi => ?_, hc.defers, ?_, ?_, ?_, ?_, ?_, ?_, ?_, hc.fresh⟩
  · have hi' : i < σ.tm.length := hi
    refine hrel (hno _ ?_) (hc.rel i hi)
    show (σ.setOwn id _).tm.getD i .any ∈ σ.tm; simp [St.setOwn, List.getD, hi']
  · intro i ob' h hre
    rw [hget] at h
    split at h
    · rename_i e'; cases h; subst e'
      exact ⟨l.toArray, by simp only [if_true]; exact hnew, rfl⟩
    · rename_i e'
      obtain ⟨arr', hw, hb'⟩ := hc.blk i ob' h hre
      have := hltw _ _ h hre
      refine ⟨arr', by simp only [e', if_false]; rw [hold _ this]; exact hw, ?_⟩
      obtain ⟨ty, cs⟩ := ob'
      cases cs with
      | dyn l' => exact hb'
      | list l' => exact hb'
      | fixed l' =>
        refine ⟨hb'.1, fun j hj => hrel (hno2 ty l' ?_ _ ?_) (hb'.2 j hj)⟩
        · have hil : i < σ.own.length := by
            rcases Nat.lt_or_ge i σ.own.length with h' | h'
            · exact h'
            · simp [List.getD, List.getElem?_eq_none h'] at h
          have : σ.own[i] = some ⟨ty, .fixed l'⟩ := by simpa [List.getD, hil] using h
          rw [← this]; exact List.getElem_mem _
        · simp [List.getD, hj]
  · intro i ob' h hre
    rw [hget] at h
    split at h
    · rename_i e'; simp only [e', if_true]; exact .inl hc.below.size
    · rename_i e'; simp only [e', if_false]; exact hc.lo i ob' h hre
  · intro p hp
    obtain ⟨h1, h2⟩ := hc.lent p hp
    have hne : p.1 ≠ id := by intro h; rw [h, hkid] at h2; simp at h2
    exact ⟨by simp only [hne, if_false]; exact h1, by rw [hk]; exact h2⟩
  · intro i ob' h hre
    rw [hget] at h
    split at h
    · rename_i e'; simp only [e', if_true]; exact hc.vin.none_new
    · rename_i e'; simp only [e', if_false]; exact hc.out i ob' h hre
  · intro i i' ob1 ob2 h1 h2 hr1 hr2 he
    rw [hget] at h1 h2
    by_cases e1 : i = id <;> by_cases e2 : i' = id
    · exact e1.trans e2.symm
    · simp only [e1, e2, if_true, if_false] at he h2
      have := hltw _ _ h2 hr2; omega
    · simp only [e1, e2, if_true, if_false] at he h1
      have := hltw _ _ h1 hr1; omega
    · simp only [e1, e2, if_false] at he h1 h2
      exact hc.inj _ _ _ _ h1 h2 hr1 hr2 he
  · intro b cs hb'
    obtain ⟨T, fr, hw⟩ := hc.vin b cs hb'
    refine ⟨T, fr, ?_⟩
    have : b < w.heap.size := by
      rcases Nat.lt_or_ge b w.heap.size with h | h
      · exact h
      · rw [Array.getElem?_eq_none h] at hw; simp at hw
    rw [hold _ this]; exact hw
  · exact hc.below.drew.alloc _

theorem appT_sound {P : Program} {id : Nat} {o B w0 σ V a w addr} {K : St → View → Prop} {N : Act → World → Prop} {Q : Exit → Act → World → Prop} (hc : Conc B w0 σ V a w addr)
    (hN : ∀ σ' V' a' w' addr', V.le V' → Conc B w0 σ' V' a' w' addr' → K σ' V' → N a' w') (h : appT P id o σ V K) : o.wp P a w N Q := by
  unfold appT at h
  split at h
  · rename_i x y e sz bs hq
    obtain ⟨t, i, z, hop, ht, hi, hz, hsize, hby, hzs, h1⟩ := appQ_spec hq
    have hx := hc.eval x
    have hy := hc.eval y
    split at h
    · rename_i i' n cap ay m cy e' l ex ey hid
      rw [ex] at hx; rw [ey] at hy
      simp only [Rel] at hx hy
      split at h
      · rename_i hii hee
        have hii := Nat.eq_of_beq_eq_true hii
        have hee := Nat.eq_of_beq_eq_true hee
        subst hii; subst hee
        obtain ⟨xs, vs, hok, hvs, hvl, hone, h63, hb, h⟩ := h
        have hml : n + m ≤ 9223372036854775807 := by simp only [maxLen] at h63; omega
        have hxl : xs.length = n * sz := by
          rw [← hok.take, List.length_take, hok.len]
          exact Nat.min_eq_left (Nat.mul_le_mul_right _ hok.le)
        have hck := hc.kill i'
        have hidk : (σ.kill i').own[i']? = some (some ⟨e', .list l⟩) := by
          simp only [St.kill, List.getElem?_map, hid]; rfl
        have hnol : ∀ s ∈ (σ.kill i').tm, noL i' s := by
          intro s hs
          obtain ⟨s0, _, rfl⟩ := List.mem_map.1 hs
          exact noL_kill i' s0
        have hnol2 : ∀ ty l, some ⟨ty, .fixed l⟩ ∈ (σ.kill i').own → ∀ s ∈ l, noL i' s := by
          intro ty l' hl s hs
          obtain ⟨o0, _, ho0⟩ := List.mem_map.1 hl
          obtain ⟨ob0, rfl, hob⟩ := Option.map_eq_some_iff.1 ho0
          obtain ⟨ty0, cs0⟩ := ob0
          cases cs0 with
          | fixed l0 =>
            simp only [killC, OB.mk.injEq, Cs.fixed.injEq] at hob
            rw [← hob.2] at hs
            obtain ⟨s0, _, rfl⟩ := List.mem_map.1 hs
            exact noL_kill i' s0
          | dyn l0 => simp [killC] at hob
          | list l0 => simp [killC] at hob
        unfold Oper.wp
        by_cases hm : m = 0
        · subst hm
          have hv0 : vs = [] := List.eq_nil_of_length_eq_zero (by simpa using hvl)
          subst hv0
          have hr := exec_append (P := P) (ρ := a.eval) (w := w) hop (by rw [hx.2, hy]; exact run_append_none w t o.type e' i ht hi _ n cap ay cy hok.le)
          rw [hr, Oper.upon_value]
          have hk := h cap l ⟨hok.le, hok.len, by simpa using hok.take⟩
          rw [setOwn_self hidk] at hk
          refine hN _ V _ _ addr (View.le_refl V) (hck.put o.dst (s := .lst i' (n + 0) cap) ?_) hk
          exact ⟨by rw [getD_of hidk]; rfl, rfl⟩
        · have hms : m * sz ≠ 0 := Nat.mul_ne_zero hm (by omega)
          cases ay with
          | none =>
            cases vs with
            | nil => simp at hvl; omega
            | cons v l => have := hvs 0 v rfl; simp [View.load] at this
          | some A =>
            have hnews := has_cells hc.vin hvs
            by_cases hroom : n + m ≤ cap
            · -- in place
              have hc0 : cap ≠ 0 := by omega
              have hreal : (⟨e', .list l⟩ : OB).cs.real := by
                show l ≠ []
                intro e0
                have := hok.len
                rw [e0] at this
                have := Nat.mul_ne_zero hc0 (by omega : sz ≠ 0)
                simp at *; omega
              obtain ⟨arr, hw, hba⟩ := hck.blk i' _ (getD_of hidk) hreal
              simp only [BlkAt] at hba
              subst hba
              have hle1 : (n + m) * sz ≤ cap * sz := Nat.mul_le_mul_right _ hroom
              have hfit : n * i.size + vs.length ≤ l.toArray.size := by
                rw [hsize, hvl, ← Nat.add_mul]; simp [hok.len]; exact hle1
              have hrun := run_append_room (P := P) w t o.type e' i ht hi (addr i') n cap l.toArray hw A m cy vs (by rw [hsize]; exact hvl) hnews hone hroom hfit
              have hr := exec_append (P := P) (ρ := a.eval) (w := w) hop (by rw [hx.2, hy, if_neg hc0]; exact hrun)
              rw [hr, Oper.upon_value]
              have hl' : LstOk sz (n + m) cap (l.toArray.toList.take (n * i.size) ++ vs ++ l.toArray.toList.drop (n * i.size + vs.length)) (xs ++ vs) := by
                have hlen := hok.len
                have htk : l.take (n * sz) = xs := hok.take
                simp only [hsize, Array.toList]
                refine ⟨hroom, ?_, ?_⟩
                · simp only [List.length_append, List.length_take, List.length_drop, hlen, hvl]
                  have := Nat.mul_le_mul_right sz hok.le
                  rw [Nat.add_mul] at hle1
                  omega
                · rw [htk, Nat.add_mul, ← hxl, ← hvl, ← List.length_append]; exact List.take_left
              refine hN _ V _ _ addr (View.le_refl V) ((hck.wrBlk hidk hreal (.list (l.toArray.toList.take (n * i.size) ++ vs ++ l.toArray.toList.drop (n * i.size + vs.length))) rfl (l.toArray.toList.take (n * i.size) ++ vs ++ l.toArray.toList.drop (n * i.size + vs.length)).toArray rfl).put o.dst (s := .lst i' (n + m) cap) ?_) (h cap _ hl')
              refine ⟨?_, by rw [if_neg hc0]⟩
              simp only [St.setOwn, List.getD, List.getElem?_set, if_true]
              have hlt : i' < (σ.kill i').own.length := by
                rcases Nat.lt_or_ge i' (σ.kill i').own.length with h | h
                · exact h
                · rw [List.getElem?_eq_none h] at hidk; simp at hidk
              simp [hlt]
            · -- in a new block
              have fin : ∀ (cells : Array Value) (c2 : Nat), n + m ≤ c2 → (∃ l2 : List Value, cells = l2.toArray ∧ l2.length = c2 * sz ∧ l2.take ((n + m) * sz) = xs ++ vs) →
                  (execOp a.eval o).run P w = .ok (.value (.slice (some ⟨w.heap.size, 0, none⟩) (n + m) c2)) (w.drew.alloc (.cells cells e')) → Oper.upon P o a N Q ((execOp a.eval o).run P w) := by
                intro cells c2 hcap ⟨l2, hl, hlen2, htake⟩ hr
                subst hl
                rw [hr, Oper.upon_value]
                have hc0 : c2 ≠ 0 := by omega
                refine hN _ V _ _ _ (View.le_refl V) ((hck.moveBlk hidk hnol hnol2 l2).put o.dst (s := .lst i' (n + m) c2) ?_) (h c2 l2 ⟨hcap, hlen2, htake⟩)
                refine ⟨?_, by rw [if_neg hc0]; simp⟩
                simp only [St.setOwn, List.getD, List.getElem?_set, if_true]
                have hlt : i' < (σ.kill i').own.length := by
                  rcases Nat.lt_or_ge i' (σ.kill i').own.length with h | h
                  · exact h
                  · rw [List.getElem?_eq_none h] at hidk; simp at hidk
                simp [hlt]
              by_cases hc0 : cap = 0
              · have hn0 : n = 0 := by have := hok.le; omega
                subst hn0; subst hc0
                have hx0 : xs = [] := List.eq_nil_of_length_eq_zero (by simpa using hxl)
                subst hx0
                have hrun := run_append_nil (P := P) w t o.type e' i z ht hi hz A m cy vs (by rw [hsize]; exact hvl) hnews (by omega) (by omega) (by rw [hby]; rw [Nat.zero_add] at hb; omega)
                have hr := exec_append (P := P) (ρ := a.eval) (w := w) hop (by rw [hx.2, hy, if_pos rfl]; exact hrun)
                obtain ⟨l2, hl1, hl2, hl3⟩ := grown_toArray [] vs z.cells (grownCap w m 0 e' - m)
                have hge := grownCap_ge w m 0 e'
                refine fin (vs.toArray ++ Builtin.zeroCells z.cells (grownCap w m 0 e' - m)) (grownCap w m 0 e') (by rw [Nat.zero_add]; exact hge) ⟨l2, by rw [← hl1]; simp, ?_, ?_⟩ (by rw [Nat.zero_add]; exact hr)
                · rw [hl2, hzs, hvl]; simp only [List.length_nil, Nat.zero_add]
                  rw [← Nat.add_mul]; congr 1; omega
                · simp only [List.length_nil, Nat.zero_add, List.nil_append] at hl3
                  rw [Nat.zero_add, ← hvl]; simpa using hl3
              · have hreal : (⟨e', .list l⟩ : OB).cs.real := by
                  show l ≠ []
                  intro e0
                  have := hok.len
                  rw [e0] at this
                  have := Nat.mul_ne_zero hc0 (by omega : sz ≠ 0)
                  simp at *; omega
                obtain ⟨arr, hw, hba⟩ := hck.blk i' _ (getD_of hidk) hreal
                simp only [BlkAt] at hba
                subst hba
                have holds : ∀ j v, xs[j]? = some v → w.cell? ((⟨addr i', 0, none⟩ : Addr).add j) = some v := by
                  intro j v hv
                  have hadd : (⟨addr i', 0, none⟩ : Addr).add j = ⟨addr i', j, none⟩ := by unfold Addr.add; split <;> simp_all
                  rw [hadd, cell_of_row w (addr i') j l.toArray e' (0, 0) hw]
                  rw [← hok.take, List.getElem?_take] at hv
                  split at hv
                  · simpa using hv
                  · cases hv
                have hrun := run_append_grow (P := P) w t o.type e' i z ht hi hz ⟨addr i', 0, none⟩ n cap xs (by rw [hsize]; exact hxl) holds A m cy vs (by rw [hsize]; exact hvl) hnews (by omega) (by omega) (by rw [hby]; exact growslice_fits (by omega) hb)
                have hr := exec_append (P := P) (ρ := a.eval) (w := w) hop (by rw [hx.2, hy, if_neg hc0]; exact hrun)
                obtain ⟨l2, hl1, hl2, hl3⟩ := grown_toArray xs vs z.cells (grownCap w (n + m) cap e' - (n + m))
                have hge := grownCap_ge w (n + m) cap e'
                refine fin _ _ hge ⟨l2, hl1, ?_, ?_⟩ hr
                · rw [hl2, hzs, hxl, hvl, ← Nat.add_mul, ← Nat.add_mul]; congr 1; omega
                · rw [Nat.add_mul, ← hxl, ← hvl]; exact hl3
      · exact h.elim
    · exact h.elim
  · exact h.elim

/-- A block that nobody else names becomes a list of the call's own. -/
theorem Conc.gain {B w0 σ V a w addr} (hc : Conc B w0 σ V a w addr) {id : Nat} (hid : σ.own[id]? = some none) (e : TypeId) (l : List Value) (b : Nat)
    (cs : Cs) (hcs : cs = .list l ∨ (cs = .dyn l ∧ l ≠ []))
    (hb : l ≠ [] → w0.w.heap.size ≤ b ∧ w.heap[b]? = some (.cells l.toArray e (0, 0)) ∧ V b = none ∧ ∀ i ob, σ.own.getD i none = some ob → ob.cs.real → addr i ≠ b) :
    Conc B w0 (σ.setOwn id (some ⟨e, cs⟩)) V a w (fun i => if i = id then b else addr i) := by
  have hbk : ∀ own', BlkAt (fun i => if i = id then b else addr i) own' cs l.toArray := by
    intro own'
    rcases hcs with rfl | ⟨rfl, _⟩ <;> rfl
  replace hb : cs.real → w0.w.heap.size ≤ b ∧ w.heap[b]? = some (.cells l.toArray e (0, 0)) ∧ V b = none ∧ ∀ i ob, σ.own.getD i none = some ob → ob.cs.real → addr i ≠ b := by
    intro h
    rcases hcs with rfl | ⟨rfl, h0⟩
    · exact hb h
    · exact hb h0
  have hlt : id < σ.own.length := by
    rcases Nat.lt_or_ge id σ.own.length with h | h
    · exact h
    · rw [List.getElem?_eq_none h] at hid; simp at hid
  have hg : σ.own.getD id none = none := getD_of hid
  have hget : ∀ i, (σ.setOwn id (some ⟨e, cs⟩)).own.getD i none = if i = id then some ⟨e, cs⟩ else σ.own.getD i none := by
    intro i
    simp only [St.setOwn, List.getD, List.getElem?_set]
    by_cases e' : id = i
    · subst e'; simp [hlt]
    · have e'' : ¬ i = id := fun x => e' x.symm
      simp [e', e'']
  have hne : ∀ i, kind (σ.own.getD i none) ≠ 0 → i ≠ id := by rintro i h rfl; rw [hg] at h; exact h rfl
  have hmono : ∀ i, kind (σ.own.getD i none) ≠ 0 → kind ((σ.setOwn id (some ⟨e, cs⟩)).own.getD i none) = kind (σ.own.getD i none) ∧ (if i = id then b else addr i) = addr i := by
    intro i h
    rw [hget, if_neg (hne i h), if_neg (hne i h)]; exact ⟨rfl, rfl⟩
  refine ⟨hc.size, by simp [St.setOwn, hc.osize], fun i hi => Rel.own_mono hmono (hc.rel i hi), hc.defers, ?_, ?_, ?_, ?_, ?_, hc.vin, hc.below, hc.fresh⟩
  · intro i ob' h hre
    rw [hget] at h
    split at h
    · rename_i e'; cases h; subst e'
      exact ⟨l.toArray, by simp only [if_true]; exact (hb hre).2.1, hbk _⟩
    · rename_i e'
      obtain ⟨arr', hw, hb'⟩ := hc.blk i ob' h hre
      exact ⟨arr', by simp only [e', if_false]; exact hw, BlkAt.own_mono hmono hb'⟩
  · intro i ob' h hre
    rw [hget] at h
    split at h
    · rename_i e'; cases h; simp only [e', if_true]; exact .inl (hb hre).1
    · rename_i e'; simp only [e', if_false]; exact hc.lo i ob' h hre
  · intro p hp
    obtain ⟨h1, h2⟩ := hc.lent p hp
    have h3 := hmono p.1 (by omega)
    exact ⟨by simp only [h3.2]; exact h1, by rw [h3.1]; exact h2⟩
  · intro i ob' h hre
    rw [hget] at h
    split at h
    · rename_i e'; cases h; simp only [e', if_true]; exact (hb hre).2.2.1
    · rename_i e'; simp only [e', if_false]; exact hc.out i ob' h hre
  · intro i i' ob1 ob2 h1 h2 hr1 hr2 he
    rw [hget] at h1 h2
    by_cases e1 : i = id <;> by_cases e2 : i' = id
    · exact e1.trans e2.symm
    · simp only [e1, e2, if_true, if_false] at he h2 h1
      cases h1
      exact absurd he.symm ((hb hr1).2.2.2 i' ob2 h2 hr2)
    · simp only [e1, e2, if_true, if_false] at he h1 h2
      cases h2
      exact absurd he ((hb hr2).2.2.2 i ob1 h1 hr1)
    · simp only [e1, e2, if_false] at he h1 h2
      exact hc.inj _ _ _ _ h1 h2 hr1 hr2 he

theorem callOT_sound {P : Program} {Shp sol id o B w0 σ V a w addr} {K : St → View → Prop} {N : Act → World → Prop} {Q : Exit → Act → World → Prop} (hc : Conc B w0 σ V a w addr)
    (hN : ∀ σ' V' a' w' addr', V.le V' → Conc B w0 σ' V' a' w' addr' → K σ' V' → N a' w') (h : callOT P Shp sol id o σ V K) : o.wp P a w N Q := by
  have hltw : ∀ i ob', σ.own.getD i none = some ob' → ob'.cs.real → addr i < w.heap.size := by
    intro i ob' h hre
    obtain ⟨arr', hw, _⟩ := hc.blk i ob' h hre
    rcases Nat.lt_or_ge (addr i) w.heap.size with h | h
    · exact h
    · rw [Array.getElem?_eq_none h] at hw; simp at hw
  have gain : ∀ {e : TypeId} {l : List Value} {b : Nat} {V' : View} {w' : World}, σ.own[id]? = some none → V.le V' → V'.In w' → V.fresh w.heap.size V' → Below w.heap.size w w' →
      (l ≠ [] → w.heap.size ≤ b ∧ w'.heap[b]? = some (.cells l.toArray e (0, 0)) ∧ V' b = none) → ∀ cs : Cs, (cs = .list l ∨ (cs = .dyn l ∧ l ≠ [])) → Conc B w0 (σ.setOwn id (some ⟨e, cs⟩)) V' a w' (fun i => if i = id then b else addr i) := by
    intro e l b V' w' hid hle hin hf hb ho cs hcs
    refine (hc.view hle hin hf hb).gain hid e l b cs hcs fun hl => ?_
    obtain ⟨h1, h2, h3⟩ := ho hl
    refine ⟨Nat.le_trans hc.below.size h1, h2, h3, fun i ob hi hre => ?_⟩
    have := hltw i ob hi hre; omega
  have hkind : ∀ {e : TypeId} {l : List Value}, σ.own[id]? = some none → kind ((σ.setOwn id (some ⟨e, .list l⟩)).own.getD id none) = 2 := by
    intro e l hid
    have hlt : id < σ.own.length := by
      rcases Nat.lt_or_ge id σ.own.length with h | h
      · exact h
      · rw [List.getElem?_eq_none h] at hid; simp at hid
    simp [St.setOwn, List.getD, List.getElem?_set, hlt]
  unfold callOT at h
  split at h
  · rename_i f vs hq hid
    unfold Oper.wp
    rw [callQ_run hc hq, Oper.upon_enter]
    split at h
    · rename_i t hres
      split at h
      · rename_i e he
        refine (h w hc.vin).mono fun e' w' ⟨b, n, cap, l, rest, V', hr, hle, hin, hf, hb, ho, hrest, hk⟩ => ?_
        subst hr; subst hrest
        cases sol with
        | false =>
          refine hN _ V' _ w' _ hle ((gain hid hle hin hf hb ho _ (.inl rfl)).put o.dst (s := .lst id n cap) ?_) hk
          exact ⟨hkind hid, by simp only [if_true]; rfl⟩
        | true =>
          obtain ⟨⟨hc0, hl0⟩, hk⟩ := hk
          refine hN _ V' _ w' _ hle ((gain hid hle hin hf hb ho (.dyn l) (.inr ⟨rfl, hl0⟩)).put o.dst (s := .osl id 0 n cap) ?_) hk
          have hlt : id < σ.own.length := by
            rcases Nat.lt_or_ge id σ.own.length with h | h
            · exact h
            · rw [List.getElem?_eq_none h] at hid; simp at hid
          exact ⟨by simp [St.setOwn, List.getD, List.getElem?_set, hlt], by simp only [if_true, ownRes, lstA, if_neg hc0]⟩
      · exact h.elim
    · rename_i t u hres
      split at h
      · rename_i e he
        refine (h w hc.vin).mono fun e' w' ⟨b, n, cap, l, rest, V', hr, hle, hin, hf, hb, ho, x, hrest, hk⟩ => ?_
        subst hr; subst hrest
        refine hN _ V' _ w' _ hle ((gain hid hle hin hf hb ho _ (.inl rfl)).put o.dst (s := .tlst id n cap [(Shp u).val x]) ?_) hk
        exact ⟨hkind hid, by simp only [if_true]; rfl⟩
      · exact h.elim
    · exact h.elim
  · exact h.elim

theorem callDST_sound {P : Program} {o B w0 σ V a w addr} {K : St → View → Prop} {N : Act → World → Prop} {Q : Exit → Act → World → Prop} (hc : Conc B w0 σ V a w addr)
    (hN : ∀ σ' V' a' w' addr', V.le V' → Conc B w0 σ' V' a' w' addr' → K σ' V' → N a' w') (h : callDST P o σ V K) : o.wp P a w N Q := by
  unfold callDST at h
  split at h
  · rename_i f id off len cap vs hq
    split at h
    · rename_i ty l hob
      have hg := getD_of hob
      obtain ⟨arr, hw, hba⟩ := hc.blk id _ hg trivial
      simp only [BlkAt] at hba
      subst hba
      unfold Oper.wp
      rw [callQD_run hc hq]
      rw [Oper.upon_enter]
      refine (h w (addr id) hc.vin hw (hc.out id _ hg trivial)).mono fun e w' ⟨V', l', he, hle, hin, hf, hb, hw', hn, hk⟩ => ?_
      subst he
      have hc' := hc.lentBlk hob trivial l' rfl hle hin hf hb hw' hn
      refine hN _ V' _ w' addr hle (hc'.put o.dst (s := .osl id off len cap) ?_) hk
      have hlt : id < σ.own.length := by
        rcases Nat.lt_or_ge id σ.own.length with h | h
        · exact h
        · rw [List.getElem?_eq_none h] at hob; simp at hob
      exact ⟨by simp [St.setOwn, List.getD, List.getElem?_set, hlt], rfl⟩
    · exact h.elim
  · exact h.elim

theorem stepT_sound {P : Program} {Shp ops an o B w0 σ V a w addr} {K : St → View → Prop} {N : Act → World → Prop} {Q : Exit → Act → World → Prop} (hc : Conc B w0 σ V a w addr)
    (hN : ∀ σ' V' a' w' addr', V.le V' → Conc B w0 σ' V' a' w' addr' → K σ' V' → N a' w') (h : stepT P Shp ops an o σ V K) : stepW P ops o a w N Q := by
  unfold stepT at h
  unfold stepW
  split at h
  · rename_i hg
    rw [if_pos (guardOf_spec hc hg)]
    refine .inl ?_
    unfold actT at h
    split at h
    · exact callT_sound hc hN h
    · exact buildT_sound hc hN h
    · exact callDT_sound hc hN h
    · exact appT_sound hc hN h
    · exact appFullT_sound hc hN h
    · exact makeT_sound hc hN h
    · exact callOT_sound hc hN h
    · exact callDST_sound hc hN h
    · obtain ⟨s, ob, hk, hd⟩ := coreT_sound hc h
      refine does_wp (k := fun _ s => fin an.sp s fun s => K ((σ.setOwn an.rt ob).put o.dst s) V) hd hk fun x w' addr' hc' hr hk' => ?_
      obtain ⟨s', hr', hk''⟩ := fin_spec hr hk'
      exact hN _ V _ _ addr' (View.le_refl V) (hc'.put o.dst hr') hk''
  · rename_i hg
    rw [guardOf_spec hc hg, if_neg (by simp)]
    exact hN _ V _ _ addr (View.le_refl V) (hc.put o.dst (s := .val undef) rfl) h
  · exact h.elim

end Go.Vc

namespace Go.Vc
open Go Go.RowKit

section laws
variable {P : Program} {Shp : Shapes} {V : View} {rt : Nat} {o : Oper} {ev : Operand → SV} {blk : Option (Option OB)} {k k' : SV → Option OB → Prop}

theorem gen_ex {fl : Nat} {k : SV → Prop} (h : gen P fl o ev k) : ∃ s, k s ∧ gen P fl o ev (fun s' => s' = s) := by
  revert h; unfold gen
  split
  · split
    · intro h; exact ⟨_, h, rfl⟩
    · intro h; exact h.elim
  · rintro ⟨v, hv, h⟩; exact ⟨_, h, v, hv, rfl⟩
  · intro h; exact h.elim
theorem gen_mono {fl : Nat} {k k' : SV → Prop} (hk : ∀ s, k s → k' s) (h : gen P fl o ev k) : gen P fl o ev k' := by
  revert h; unfold gen
  split
  · split
    · intro h; exact hk _ h
    · intro h; exact h.elim
  · rintro ⟨v, hv, h⟩; exact ⟨v, hv, hk _ h⟩
  · intro h; exact h.elim

theorem move_ex (h : coreMove P Shp V rt o ev blk k) : ∃ s ob, k s ob ∧ coreMove P Shp V rt o ev blk (fun s' ob' => s' = s ∧ ob' = ob) := by
  revert h; unfold coreMove
  repeat' split
  all_goals first
    | (intro h; exact h.elim)
    | (intro h; exact ⟨_, _, h, rfl, rfl⟩)
theorem new_ex (h : coreNew P Shp V rt o ev blk k) : ∃ s ob, k s ob ∧ coreNew P Shp V rt o ev blk (fun s' ob' => s' = s ∧ ob' = ob) := by
  revert h; unfold coreNew
  repeat' split
  all_goals first
    | (intro h; exact h.elim)
    | (intro h; exact h.2.elim)
    | (intro h; exact ⟨_, _, h, rfl, rfl⟩)
    | (intro h; exact ⟨_, _, h.2, h.1, rfl, rfl⟩)
theorem load_ex (h : coreLoad P Shp V rt o ev blk k) : ∃ s ob, k s ob ∧ coreLoad P Shp V rt o ev blk (fun s' ob' => s' = s ∧ ob' = ob) := by
  revert h; unfold coreLoad
  repeat' split
  all_goals first
    | (intro h; exact h.elim)
    | (intro h; exact ⟨_, _, h, rfl, rfl⟩)
    | (rintro ⟨x, hx, h⟩; exact ⟨_, _, h, x, hx, rfl, rfl⟩)
    | (rintro ⟨x, hx, h⟩
       split at h
       · rename_i hv
         split at h
         · rename_i hb
           exact ⟨_, _, h, x, hx, by rw [hv]; simp [hb]⟩
         · exact h.elim
       · exact h.elim)
theorem see_ex (h : coreSee P Shp V rt o ev blk k) : ∃ s ob, k s ob ∧ coreSee P Shp V rt o ev blk (fun s' ob' => s' = s ∧ ob' = ob) := by
  revert h; unfold coreSee
  repeat' split
  all_goals first
    | (intro h; exact h.elim)
    | (rintro ⟨x, hx, h⟩; exact ⟨_, _, h, x, hx, rfl, rfl⟩)
    | (rintro ⟨x, hx, hs, h1, h⟩; exact ⟨_, _, h, x, hx, hs, h1, rfl, rfl⟩)
    | (rintro ⟨x, hx, hs, h⟩
       split at h
       · rename_i hv
         split at h
         · rename_i hb
           exact ⟨_, _, h, x, hx, hs, by rw [hv]; simp [hb]⟩
         · exact h.elim
       · exact h.elim)
theorem store_ex (h : coreStore P Shp V rt o ev blk k) : ∃ s ob, k s ob ∧ coreStore P Shp V rt o ev blk (fun s' ob' => s' = s ∧ ob' = ob) := by
  revert h; unfold coreStore
  repeat' split
  all_goals first
    | (intro h; exact h.elim)
    | (intro h; exact ⟨_, _, h, rfl, rfl⟩)
    | (intro h; exact ⟨_, _, h.2, h.1, rfl, rfl⟩)
theorem place_ex (h : corePlace P Shp V rt o ev blk k) : ∃ s ob, k s ob ∧ corePlace P Shp V rt o ev blk (fun s' ob' => s' = s ∧ ob' = ob) := by
  revert h; unfold corePlace
  repeat' split
  all_goals first
    | (intro h; exact h.elim)
    | (intro h; exact ⟨_, _, h, rfl, rfl⟩)
    | (intro h; exact ⟨_, _, h.2, h.1, rfl, rfl⟩)

theorem more_ex (h : coreMore P Shp V rt o ev blk k) : ∃ s ob, k s ob ∧ coreMore P Shp V rt o ev blk (fun s' ob' => s' = s ∧ ob' = ob) := by
  revert h; unfold coreMore
  repeat' split
  all_goals first
    | (intro h; exact h.elim)
    | (intro h; exact ⟨_, _, h.2, h.1, rfl, rfl⟩)
    | (rintro ⟨x, hx, h⟩; exact ⟨_, _, h, x, hx, rfl, rfl⟩)
theorem copy_ex (h : coreCopy P Shp V rt o ev blk k) : ∃ s ob, k s ob ∧ coreCopy P Shp V rt o ev blk (fun s' ob' => s' = s ∧ ob' = ob) := by
  revert h; unfold coreCopy
  repeat' split
  all_goals first
    | (intro h; exact h.elim)
    | (rintro ⟨vs, h1, h2, h3, h4, h5, h⟩; exact ⟨_, _, h, vs, h1, h2, h3, h4, h5, rfl, rfl⟩)

theorem coreT_ex {an : An} (h : coreT P Shp V an o ev blk k) : ∃ s ob, k s ob ∧ coreT P Shp V an o ev blk (fun s' ob' => s' = s ∧ ob' = ob) := by
  revert h; unfold coreT
  split
  · exact move_ex
  · exact new_ex
  · exact load_ex
  · exact see_ex
  · exact store_ex
  · exact place_ex
  · exact more_ex
  · exact copy_ex
  · split
    · intro h; obtain ⟨s, hk, hg⟩ := gen_ex h; exact ⟨s, _, hk, gen_mono (fun s' e => ⟨e, rfl⟩) hg⟩
    · intro h; exact h.elim
  · split
    · intro h; obtain ⟨s, hk, hg⟩ := gen_ex h; exact ⟨s, _, hk, gen_mono (fun s' e => ⟨e, rfl⟩) hg⟩
    · intro h; exact h.elim

theorem coreT_mono {an : An} (hk : ∀ s ob, k s ob → k' s ob) (h : coreT P Shp V an o ev blk k) : coreT P Shp V an o ev blk k' := by
  revert h; unfold coreT
  split
  · unfold coreMove; repeat' split
    all_goals first
      | (intro h; exact h.elim)
      | (intro h; exact hk _ _ h)
  · unfold coreNew; repeat' split
    all_goals first
      | (intro h; exact h.elim)
      | (intro h; exact h.2.elim)
      | (intro h; exact hk _ _ h)
      | (intro h; exact ⟨h.1, hk _ _ h.2⟩)
  · unfold coreLoad; repeat' split
    all_goals first
      | (intro h; exact h.elim)
      | (intro h; exact hk _ _ h)
      | (rintro ⟨x, hx, h⟩; exact ⟨x, hx, hk _ _ h⟩)
      | (rintro ⟨x, hx, h⟩
         refine ⟨x, hx, ?_⟩
         revert h
         split
         · split
           · exact hk _ _
           · exact id
         · exact id)
  · unfold coreSee; repeat' split
    all_goals first
      | (intro h; exact h.elim)
      | (rintro ⟨x, hx, h⟩; exact ⟨x, hx, hk _ _ h⟩)
      | (rintro ⟨x, hx, hs, h1, h⟩; exact ⟨x, hx, hs, h1, hk _ _ h⟩)
      | (rintro ⟨x, hx, hs, h⟩
         refine ⟨x, hx, hs, ?_⟩
         revert h
         split
         · split
           · exact hk _ _
           · exact id
         · exact id)
  · unfold coreStore; repeat' split
    all_goals first
      | (intro h; exact h.elim)
      | (intro h; exact hk _ _ h)
      | (intro h; exact ⟨h.1, hk _ _ h.2⟩)
  · unfold corePlace; repeat' split
    all_goals first
      | (intro h; exact h.elim)
      | (intro h; exact hk _ _ h)
      | (intro h; exact ⟨h.1, hk _ _ h.2⟩)
  · unfold coreMore; repeat' split
    all_goals first
      | (intro h; exact h.elim)
      | (intro h; exact ⟨h.1, hk _ _ h.2⟩)
      | (rintro ⟨x, hx, h⟩; exact ⟨x, hx, hk _ _ h⟩)
  · unfold coreCopy; repeat' split
    all_goals first
      | (intro h; exact h.elim)
      | (rintro ⟨vs, h1, h2, h3, h4, h5, h⟩; exact ⟨vs, h1, h2, h3, h4, h5, hk _ _ h⟩)
  · split
    · exact gen_mono (fun s => hk s _)
    · exact id
  · split
    · exact gen_mono (fun s => hk s _)
    · exact id

theorem coreT_view {an : An} {V' : View} (hV : V.le V') (h : coreT P Shp V an o ev blk k) : coreT P Shp V' an o ev blk k := by
  revert h; unfold coreT
  split
  · exact id
  · exact id
  · exact id
  · unfold coreSee; repeat' split
    all_goals first
      | exact id
      | (rintro ⟨x, hx, h⟩; exact ⟨x, View.load_le hV hx, h⟩)
      | (rintro ⟨x, hx, hs, h⟩; exact ⟨x, View.has_le hV hx, hs, h⟩)
  · exact id
  · exact id
  · exact id
  · unfold coreCopy; repeat' split
    all_goals first
      | exact id
      | (rintro ⟨vs, h1, h2, h3, h4, h5, h⟩; exact ⟨vs, View.has_le hV h1, h2, h3, h4, h5, h⟩)
  · split <;> exact id
  · split <;> exact id

/-- Operations that do not write into a block of their own hand it on as it was. -/
theorem coreT_same {an : An} {b : Option OB} (h3 : an.fl ≠ 3) (h6 : an.fl ≠ 6) (h16 : an.fl ≠ 16) (h : coreT P Shp V an o ev (some b) k) : coreT P Shp V an o ev (some b) (fun s ob => ob = b ∧ k s ob) := by
  revert h; unfold coreT
  split
  · unfold coreMove; repeat' split
    all_goals first
      | (intro h; exact h.elim)
      | (intro h; simp_all; done)
  · contradiction
  · unfold coreLoad; repeat' split
    all_goals first
      | (intro h; exact h.elim)
      | (intro h; simp_all; done)
      | (rintro ⟨x, hx, h⟩; refine ⟨x, hx, ?_⟩; simp_all; done)
      | (rintro ⟨x, hx, h⟩
         refine ⟨x, hx, ?_⟩
         revert h
         split
         · split
           · intro h; simp_all
           · exact id
         · exact id)
  · unfold coreSee; repeat' split
    all_goals first
      | (intro h; exact h.elim)
      | (rintro ⟨x, hx, h⟩; refine ⟨x, hx, ?_⟩; simp_all; done)
      | (rintro ⟨x, hx, hs, h1, h⟩; refine ⟨x, hx, hs, h1, ?_⟩; simp_all; done)
      | (rintro ⟨x, hx, hs, h⟩
         refine ⟨x, hx, hs, ?_⟩
         revert h
         split
         · split
           · intro h; simp_all
           · exact id
         · exact id)
  · contradiction
  · unfold corePlace; repeat' split
    all_goals first
      | (intro h; exact h.elim)
      | (intro h; simp_all; done)
  · unfold coreMore; repeat' split
    all_goals first
      | (intro h; exact h.elim)
      | (intro h; simp_all; done)
      | (rintro ⟨x, hx, h⟩; refine ⟨x, hx, ?_⟩; simp_all; done)
  · contradiction
  · exact gen_mono (fun s h => ⟨rfl, h⟩)
  · exact gen_mono (fun s h => ⟨rfl, h⟩)
end laws

section congr
variable {P : Program} {Shp : Shapes} {V : View} {rt : Nat} {o : Oper} {ev ev' : Operand → SV} {blk : Option (Option OB)} {k : SV → Option OB → Prop}

theorem all_congr' {α : Type} {p q : α → Bool} : ∀ {l : List α}, (∀ x ∈ l, p x = q x) → l.all p = l.all q
  | [], _ => rfl
  | x :: l, h => by simp [h x (by simp), all_congr' (l := l) (fun y hy => h y (by simp [hy]))]

theorem gen_congr {fl : Nat} {k : SV → Prop} (hev : ∀ x ∈ o.op.operands, ev x = ev' x) (h : gen P fl o ev k) : gen P fl o ev' k := by
  have h1 : o.op.operands.toList.all (fun x => (ev x).asVal.isSome) = o.op.operands.toList.all (fun x => (ev' x).asVal.isSome) :=
    all_congr' fun x hx => by rw [hev x (by simpa using hx)]
  cases hs : isSelect o.op with
  | true => unfold gen at h; rw [hs] at h; exact h.elim
  | false =>
    have h2 : execOp (rho ev) o = execOp (rho ev') o :=
      execOp_congr o (by intro cs b e; rw [e] at hs; simp [isSelect] at hs) (fun x hx => by simp [rho, hev x hx])
    unfold gen at h ⊢
    rw [← h1, ← h2]; exact h

theorem move_congr (hev : ∀ x ∈ o.op.operands, ev x = ev' x) (h : coreMove P Shp V rt o ev blk k) : coreMove P Shp V rt o ev' blk k := by
  revert h; unfold coreMove
  split
  · rename_i x hop; rw [hev x (by simp [hop, Op.operands])]; exact id
  · rename_i x hop; rw [hev x (by simp [hop, Op.operands])]; exact id
  · rename_i c x y hop; rw [hev c (by simp [hop, Op.operands]), hev x (by simp [hop, Op.operands]), hev y (by simp [hop, Op.operands])]; exact id
  · rename_i x i hop; rw [hev x (by simp [hop, Op.operands])]; exact id
  · exact id
theorem new_congr (hev : ∀ x ∈ o.op.operands, ev x = ev' x) (h : coreNew P Shp V rt o ev blk k) : coreNew P Shp V rt o ev' blk k := by
  revert h; unfold coreNew
  split
  · exact id
  · rename_i t x hop; rw [hev x (by simp [hop, Op.operands])]; exact id
  · rename_i t n c hop; rw [hev n (by simp [hop, Op.operands]), hev c (by simp [hop, Op.operands])]; exact id
  · exact id
theorem load_congr (hev : ∀ x ∈ o.op.operands, ev x = ev' x) (h : coreLoad P Shp V rt o ev blk k) : coreLoad P Shp V rt o ev' blk k := by
  revert h; unfold coreLoad
  split
  · rename_i t p ob hop; rw [hev p (by simp [hop, Op.operands])]; exact id
  · exact id
theorem see_congr (hev : ∀ x ∈ o.op.operands, ev x = ev' x) (h : coreSee P Shp V rt o ev blk k) : coreSee P Shp V rt o ev' blk k := by
  revert h; unfold coreSee
  split
  · rename_i t p b hop; rw [hev p (by simp [hop, Op.operands])]; exact id
  · rename_i src dst x b hop; rw [hev x (by simp [hop, Op.operands])]; exact id
  · exact id
theorem store_congr (hev : ∀ x ∈ o.op.operands, ev x = ev' x) (h : coreStore P Shp V rt o ev blk k) : coreStore P Shp V rt o ev' blk k := by
  revert h; unfold coreStore
  split
  · rename_i t p x ob hop; rw [hev p (by simp [hop, Op.operands]), hev x (by simp [hop, Op.operands])]; exact id
  · exact id
theorem place_congr (hev : ∀ x ∈ o.op.operands, ev x = ev' x) (h : corePlace P Shp V rt o ev blk k) : corePlace P Shp V rt o ev' blk k := by
  revert h; unfold corePlace
  split
  · rename_i s p f b hop; rw [hev p (by simp [hop, Op.operands])]; exact id
  · rename_i t x i b hop; rw [hev x (by simp [hop, Op.operands]), hev i (by simp [hop, Op.operands])]; exact id
  · rename_i t x lo hi mx b hop
    rw [hev x (by simp [hop, Op.operands])]
    cases lo with
    | none => cases hi with
      | none => exact id
      | some y => simp only [hev y (by simp [hop, Op.operands])]; exact id
    | some z => cases hi with
      | none => simp only [hev z (by simp [hop, Op.operands])]; exact id
      | some y => simp only [hev y (by simp [hop, Op.operands]), hev z (by simp [hop, Op.operands])]; exact id
  · rename_i c b hop
    split
    · rename_i x t hcal hargs htys
      rw [hev x (by
        have : x ∈ c.args.toList := by rw [hargs]; simp
        simp only [hop, Op.operands, Call.operands]
        simp at this
        simp [this])]
      exact id
    · exact id
  · rename_i f first caps b hop
    split
    · rename_i p hf hc
      rw [hev p (by
        have : p ∈ caps.toList := by rw [hc]; simp
        simp at this
        simp [hop, Op.operands, this])]
      exact id
    · exact id
  · exact id

theorem argVals_congr {ev ev' : Operand → SV} : ∀ {l : List Operand}, (∀ x ∈ l, ev x = ev' x) → argVals ev l = argVals ev' l
  | [], _ => rfl
  | x :: l, h => by simp [argVals, h x (by simp), argVals_congr (l := l) (fun y hy => h y (by simp [hy]))]

theorem more_congr (hev : ∀ x ∈ o.op.operands, ev x = ev' x) (h : coreMore P Shp V rt o ev blk k) : coreMore P Shp V rt o ev' blk k := by
  revert h; unfold coreMore
  split
  · exact id
  · split
    · rename_i op t x y yt hop
      rw [hev x (by simp [hop, Op.operands]), hev y (by simp [hop, Op.operands])]; exact id
    · rename_i c hop
      have hc : ∀ x ∈ c.args.toList, ev x = ev' x := fun x hx => hev x (by
        simp only [hop, Op.operands, Call.operands]
        simp at hx
        simp [hx])
      split
      · rename_i x y hcal hargs
        rw [hargs] at hc
        rw [hc x (by simp), hc y (by simp)]; exact id
      · rename_i x y hcal hargs
        rw [hargs] at hc
        rw [hc x (by simp), hc y (by simp)]; exact id
      · rw [argVals_congr hc]; exact id
      · exact id
    · rename_i t x ix hop
      rw [hev x (by simp [hop, Op.operands]), hev ix (by simp [hop, Op.operands])]; exact id
    · rename_i t x lo hi mx hop
      rw [hev x (by simp [hop, Op.operands]), hev mx (by simp [hop, Op.operands])]
      cases lo with
      | none => cases hi with
        | none => exact id
        | some y => simp only [hev y (by simp [hop, Op.operands])]; exact id
      | some z => cases hi with
        | none => simp only [hev z (by simp [hop, Op.operands])]; exact id
        | some y => simp only [hev y (by simp [hop, Op.operands]), hev z (by simp [hop, Op.operands])]; exact id
    · exact id
theorem copy_congr (hev : ∀ x ∈ o.op.operands, ev x = ev' x) (h : coreCopy P Shp V rt o ev blk k) : coreCopy P Shp V rt o ev' blk k := by
  revert h; unfold coreCopy
  split
  · rename_i c ob hop
    have hc : ∀ x ∈ c.args.toList, ev x = ev' x := fun x hx => hev x (by
      simp only [hop, Op.operands, Call.operands]
      simp at hx
      simp [hx])
    split
    · rename_i x y t t2 hcal hargs htys
      rw [hargs] at hc
      rw [hc x (by simp), hc y (by simp)]; exact id
    · exact id
  · exact id

theorem coreT_congr {an : An} (hev : ∀ x ∈ o.op.operands, ev x = ev' x) (h : coreT P Shp V an o ev blk k) : coreT P Shp V an o ev' blk k := by
  revert h; unfold coreT
  split
  · exact move_congr hev
  · exact new_congr hev
  · exact load_congr hev
  · exact see_congr hev
  · exact store_congr hev
  · exact place_congr hev
  · exact more_congr hev
  · exact copy_congr hev
  · split
    · exact gen_congr hev
    · exact id
  · split
    · exact gen_congr hev
    · exact id
end congr

end Go.Vc

namespace Go.Vc
open Go Go.RowKit

def wrA (an : An) : Bool := an.fl == 3 || an.fl == 6 || an.fl == 16
def clsA (an : An) : Nat := match an.fl with | 10 => 2 | 11 => 1 | 13 => 5 | 14 => 3 | 15 => 4 | 17 => 4 | 18 => 3 | 19 => 3 | _ => 0

theorem fin_ex {sp : Bool} {s : SV} {k : SV → Prop} (h : fin sp s k) : ∃ s', k s' ∧ fin sp s (fun t => t = s') := by
  revert h; unfold fin
  split
  · intro h; exact ⟨_, h, rfl⟩
  · split
    · intro h; exact ⟨_, h, rfl⟩
    · rename_i b
      intro h
      cases b with
      | true => exact ⟨_, h.1 rfl, ⟨fun _ => rfl, by simp⟩⟩
      | false => exact ⟨_, h.2 rfl, ⟨by simp, fun _ => rfl⟩⟩
    · intro h; exact h.elim
theorem fin_mono {sp : Bool} {s : SV} {k k' : SV → Prop} (hk : ∀ s, k s → k' s) (h : fin sp s k) : fin sp s k' := by
  revert h; unfold fin
  split
  · exact hk _
  · split
    · exact hk _
    · intro h; exact ⟨fun e => hk _ (h.1 e), fun e => hk _ (h.2 e)⟩
    · exact id

/-- What an operation that calls nothing comes to. -/
def EA (P : Program) (Shp : Shapes) (an : An) (o : Oper) (g : Option Bool) (ev : Operand → SV) (blk : Option (Option OB)) (V : View) (s : SV) (ob : Option OB) : Prop :=
  match g with
  | some true => coreT P Shp V an o ev blk fun s0 ob0 => fin an.sp s0 (fun s1 => s1 = s) ∧ ob0 = ob
  | some false => s = .val undef ∧ (blk = some ob ∨ blk = none)
  | none => False

theorem setOwn_none {σ : St} {rt : Nat} {b : Option OB} (h : σ.own[rt]? = none) : σ.setOwn rt b = σ := by
  unfold St.setOwn
  congr 1
  have : σ.own.length ≤ rt := by
    rcases Nat.lt_or_ge rt σ.own.length with h' | h'
    · rw [List.getElem?_eq_getElem h'] at h; simp at h
    · exact h'
  exact List.set_eq_of_length_le this

theorem act_core {P : Program} {Shp an o σ V} {K : St → View → Prop} (hcl : clsA an = 0) :
    actT P Shp an o σ V K = coreT P Shp V an o σ.ev σ.own[an.rt]? fun s ob => fin an.sp s fun s => K ((σ.setOwn an.rt ob).put o.dst s) V := by
  unfold actT
  split
  all_goals first
    | rfl
    | (rename_i h; simp [clsA, h] at hcl; done)

theorem A_elim {P : Program} {Shp ops an o σ V} {K : St → View → Prop} (hcl : clsA an = 0) (h : stepT P Shp ops an o σ V K) :
    ∃ s ob, EA P Shp an o (guardOf ops o σ) σ.ev σ.own[an.rt]? V s ob ∧ K ((σ.setOwn an.rt ob).put o.dst s) V := by
  unfold stepT at h
  split at h
  · rename_i hg
    rw [act_core hcl] at h
    obtain ⟨s, ob, hk, hc⟩ := coreT_ex h
    obtain ⟨s', hk', hf⟩ := fin_ex hk
    refine ⟨s', ob, ?_, hk'⟩
    rw [hg]
    exact coreT_mono (fun s0 ob0 ⟨e1, e2⟩ => ⟨by rw [e1]; exact hf, e2⟩) hc
  · rename_i hg
    cases hb : σ.own[an.rt]? with
    | none => exact ⟨.val undef, none, by rw [hg]; exact ⟨rfl, .inr rfl⟩, by rw [setOwn_none hb]; exact h⟩
    | some b => exact ⟨.val undef, b, by rw [hg]; exact ⟨rfl, .inl rfl⟩, by rw [setOwn_self hb]; exact h⟩
  · exact h.elim

theorem A_intro {P : Program} {Shp ops an o σ V s ob} {K : St → View → Prop} (hcl : clsA an = 0) (h : EA P Shp an o (guardOf ops o σ) σ.ev σ.own[an.rt]? V s ob)
    (hk : K ((σ.setOwn an.rt ob).put o.dst s) V) : stepT P Shp ops an o σ V K := by
  unfold stepT
  cases hg : guardOf ops o σ with
  | none => rw [hg] at h; exact h.elim
  | some g =>
    rw [hg] at h
    cases g with
    | true =>
      simp only []
      rw [act_core hcl]
      refine coreT_mono (fun s0 ob0 ⟨h1, h2⟩ => ?_) h
      subst h2
      exact fin_mono (fun s1 e => by rw [e]; exact hk) h1
    | false =>
      simp only []
      obtain ⟨rfl, hb⟩ := h
      rcases hb with hb | hb
      · rw [setOwn_self hb] at hk; exact hk
      · rw [setOwn_none hb] at hk; exact hk

theorem EA_view {P : Program} {Shp an o g ev blk V V' s ob} (hV : View.le V V') (h : EA P Shp an o g ev blk V s ob) : EA P Shp an o g ev blk V' s ob := by
  cases g with
  | none => exact h
  | some g => cases g with
    | true => exact coreT_view hV h
    | false => exact h

theorem EA_congr {P : Program} {Shp an o g ev ev' blk V s ob} (hev : ∀ x ∈ o.op.operands, ev x = ev' x) (h : EA P Shp an o g ev blk V s ob) : EA P Shp an o g ev' blk V s ob := by
  cases g with
  | none => exact h
  | some g => cases g with
    | true => exact coreT_congr hev h
    | false => exact h

/-- What the operation leaves of its block, where it does not write it. -/
theorem EA_same {P : Program} {Shp an o g ev blk V s ob} (hw : wrA an = false) (h : EA P Shp an o g ev blk V s ob) : blk = some ob ∨ blk = none := by
  cases g with
  | none => exact h.elim
  | some g => cases g with
    | false => exact h.2
    | true =>
      cases blk with
      | none => exact .inr rfl
      | some b =>
        have h3 : an.fl ≠ 3 := by intro e; simp [wrA, e] at hw
        have h6 : an.fl ≠ 6 := by intro e; simp [wrA, e] at hw
        have h16 : an.fl ≠ 16 := by intro e; simp [wrA, e] at hw
        obtain ⟨s0, ob0, ⟨rfl, _, rfl⟩, _⟩ := coreT_ex (coreT_same h3 h6 h16 h)
        exact .inl rfl

theorem own_other {σ : St} {r r' : Nat} {ob : Option OB} (h : r ≠ r') : (σ.setOwn r ob).own[r']? = σ.own[r']? := by
  simp [St.setOwn, List.getElem?_set_ne h]
theorem put_own {σ : St} {d : Option Tmp} {s : SV} : (σ.put d s).own = σ.own := by cases d <;> rfl
theorem ev_put {σ : St} {d : Option Tmp} {s : SV} {x : Operand} (h : ∀ t, d = some t → x ≠ .tmp t) : (σ.put d s).ev x = σ.ev x := by
  cases d with
  | none => rfl
  | some t =>
    cases x with
    | tmp u =>
      have hne : t ≠ u := fun e => h t rfl (e ▸ rfl)
      simp [St.ev, St.put, List.getD, List.getElem?_set_ne hne]
    | const v => rfl
    | global g => rfl
    | func f => rfl
theorem ev_setOwn {σ : St} {r : Nat} {ob : Option OB} {x : Operand} : (σ.setOwn r ob).ev x = σ.ev x := by cases x <;> rfl

theorem guardOf_put {ops : Array Oper} {o : Oper} {σ : St} {d : Option Tmp} {s : SV} (h : ∀ t, d = some t → t ∉ o.looksAt ops) : guardOf ops o (σ.put d s) = guardOf ops o σ := by
  unfold guardOf
  cases hg : o.guard with
  | none => rfl
  | some g =>
    obtain ⟨j, want⟩ := g
    simp only []
    cases ht : (ops[j]?).bind (·.dst) with
    | none => rfl
    | some t =>
      simp only []
      cases d with
      | none => rfl
      | some u =>
        have hne : u ≠ t := by
          rintro rfl
          refine h u rfl ?_
          simp [Oper.looksAt, hg, ht]
        have : (σ.put (some u) s).tm.getD t .any = σ.tm.getD t .any := by simp [St.put, List.getD, List.getElem?_set_ne hne]
        rw [this]
theorem guardOf_setOwn {ops : Array Oper} {o : Oper} {σ : St} {r : Nat} {ob : Option OB} : guardOf ops o (σ.setOwn r ob) = guardOf ops o σ := rfl

theorem operand_looks {ops : Array Oper} {o : Oper} {d : Option Tmp} (h : ∀ t, d = some t → t ∉ o.looksAt ops) : ∀ x ∈ o.op.operands, ∀ t, d = some t → x ≠ .tmp t := by
  intro x hx t ht e
  refine h t ht ?_
  subst e
  simp only [Oper.looksAt, List.mem_append, List.mem_filterMap]
  exact .inl ⟨.tmp t, by simpa using hx, rfl⟩

theorem St.put_comm {σ : St} {d d' : Option Tmp} {s s' : SV} (h : ∀ t, d = some t → d' ≠ some t) : (σ.put d s).put d' s' = (σ.put d' s').put d s := by
  cases d with
  | none => rfl
  | some t => cases d' with
    | none => rfl
    | some t' =>
      have hne : t ≠ t' := fun e => h t rfl (by rw [e])
      simp only [St.put]
      congr 1
      exact List.set_comm _ _ hne
theorem setOwn_put {σ : St} {r : Nat} {ob : Option OB} {d : Option Tmp} {s : SV} : (σ.put d s).setOwn r ob = (σ.setOwn r ob).put d s := by cases d <;> rfl
theorem setOwn_comm {σ : St} {r r' : Nat} {ob ob' : Option OB} (h : r ≠ r') : (σ.setOwn r ob).setOwn r' ob' = (σ.setOwn r' ob').setOwn r ob := by
  simp only [St.setOwn]
  congr 1
  exact List.set_comm _ _ h

/-- Operations to which a list's old headers mean nothing. -/
def blindOp (o : Oper) (an : An) : Bool :=
  match an.fl, an.sp, o.op with
  | 7, false, .fieldAddr _ _ _ => true
  | 2, false, .move _ => true
  | 2, false, .assign _ => true
  | _, _, _ => false

/-- May 'x', which stands behind 'y', be taken before it? -/
def indepT (ops : Array Oper) (y x : Oper × An) : Bool :=
  Oper.apart ops x.1 y.1 &&
  match clsA y.2, clsA x.2 with
  | 0, 0 => !(Nat.beq y.2.rt x.2.rt) || (!wrA y.2 && !wrA x.2)
  | 0, 1 => true
  | 1, 1 => true
  | 2, 1 => true
  | 0, 2 => true
  | 0, 4 => true
  | 0, 5 => blindOp y.1 y.2 && !(Nat.beq y.2.rt x.2.rt)
  | _, _ => false

section swap
variable {P : Program} {Shp : Shapes} {ops : Array Oper} {oy ox : Oper} {ay ax : An} {σ : St} {V : View} {K : St → View → Prop}

theorem swapAA (hap : ox.apart ops oy = true) (hy : clsA ay = 0) (hx : clsA ax = 0) (hrt : ay.rt ≠ ax.rt ∨ (wrA ay = false ∧ wrA ax = false))
    (h : stepT P Shp ops ay oy σ V fun σ1 V1 => stepT P Shp ops ax ox σ1 V1 K) : stepT P Shp ops ax ox σ V fun σ1 V1 => stepT P Shp ops ay oy σ1 V1 K := by
  obtain ⟨hdx, hdd, hdy⟩ := Oper.apart_spec hap
  obtain ⟨sy, oby, hEy, h⟩ := A_elim hy h
  obtain ⟨sx, obx, hEx, h⟩ := A_elim hx h
  -- x at the start
  rw [guardOf_put hdy, guardOf_setOwn, put_own] at hEx
  have hEx : EA P Shp ax ox (guardOf ops ox σ) σ.ev (σ.setOwn ay.rt oby).own[ax.rt]? V sx obx :=
    EA_congr (fun x hx => by rw [ev_put (operand_looks hdy x hx), ev_setOwn]) hEx
  have hown : (σ.setOwn ay.rt oby).own[ax.rt]? = σ.own[ax.rt]? := by
    rcases hrt with h1 | ⟨h1, h2⟩
    · exact own_other h1
    · rcases EA_same h1 hEy with e | e
      · rw [setOwn_self e]
      · rw [setOwn_none e]
  rw [hown] at hEx
  refine A_intro hx hEx (A_intro hy (s := sy) (ob := oby) ?_ ?_)
  · rw [guardOf_put hdx, guardOf_setOwn, put_own]
    have hown' : (σ.setOwn ax.rt obx).own[ay.rt]? = σ.own[ay.rt]? := by
      rcases hrt with h1 | ⟨h1, h2⟩
      · exact own_other (fun e => h1 e.symm)
      · rcases EA_same h2 hEx with e | e
        · rw [setOwn_self e]
        · rw [setOwn_none e]
    rw [hown']
    exact EA_congr (fun x hx => by rw [ev_put (operand_looks hdx x hx), ev_setOwn]) hEy
  · have e : (((σ.setOwn ax.rt obx).put ox.dst sx).setOwn ay.rt oby).put oy.dst sy = (((σ.setOwn ay.rt oby).put oy.dst sy).setOwn ax.rt obx).put ox.dst sx := by
      rw [setOwn_put, setOwn_put, St.put_comm hdd]
      congr 2
      rcases hrt with h1 | ⟨h1, h2⟩
      · exact setOwn_comm (fun e => h1 e.symm)
      · have ey := EA_same h1 hEy
        have ex := EA_same h2 hEx
        have : ∀ {r : Nat} {b : Option OB} {τ : St}, (τ.own[r]? = some b ∨ τ.own[r]? = none) → τ.setOwn r b = τ := by
          intro r b τ hh; rcases hh with hh | hh
          · exact setOwn_self hh
          · exact setOwn_none hh
        rw [this ex, this ey, this ex]
    rw [e]; exact h

theorem buildC_congr {o : Oper} {ev ev' : Operand → SV} (hev : ∀ x ∈ o.op.operands, ev x = ev' x) : buildC P o ev = buildC P o ev' := by
  unfold buildC
  split
  · rename_i t n parts hop
    have hp : ∀ p ∈ parts.toList, ev p.2 = ev' p.2 := fun p hp => hev p.2 (by simp [hop, Op.operands]; exact ⟨p.1, by simpa using hp⟩)
    have h1 : parts.toList.all (fun p => (ev p.2).asVal.isSome) = parts.toList.all (fun p => (ev' p.2).asVal.isSome) := all_congr' fun p h => by rw [hp p h]
    have h2 : (parts.toList.map fun p => (p.1, rho ev p.2)) = parts.toList.map fun p => (p.1, rho ev' p.2) := List.map_congr_left fun p h => by simp [rho, hp p h]
    rw [h1, h2]
  · rfl

theorem build_congr {o : Oper} {σ σ' : St} {K K' : St → View → Prop} (hev : ∀ x ∈ o.op.operands, σ.ev x = σ'.ev x)
    (hk : ∀ s V', V.le V' → V'.Fin → K (σ.put o.dst s) V' → K' (σ'.put o.dst s) V') (h : buildT P o σ V K) : buildT P o σ' V K' := by
  revert h; unfold buildT
  rw [buildC_congr hev]
  split
  · intro h b V' hle hfin hb; exact hk _ _ hle hfin (h b V' hle hfin hb)
  · exact id

theorem resT_mono {ts : List TypeId} {v : Value} {k k' : SV → Prop} (hk : ∀ s, k s → k' s) (h : resT Shp ts v k) : resT Shp ts v k' := by
  revert h; unfold resT
  split
  · rintro ⟨h1, h2⟩; exact ⟨h1, hk _ h2⟩
  · rintro ⟨x, h1, h2⟩; exact ⟨x, h1, hk _ h2⟩
  · rintro ⟨x, y, h1, h2⟩; exact ⟨x, y, h1, hk _ h2⟩
  · rintro ⟨x, y, z, h1, h2⟩; exact ⟨x, y, z, h1, hk _ h2⟩
  · rintro ⟨x, y, z, q, h1, h2⟩; exact ⟨x, y, z, q, h1, hk _ h2⟩
  · exact id

theorem callQ_congr {o : Oper} {ev ev' : Operand → SV} (hev : ∀ x ∈ o.op.operands, ev x = ev' x) : callQ P o ev = callQ P o ev' := by
  unfold callQ
  split
  · rename_i c hop
    split
    · rename_i fo hcal
      rw [hev fo (by simp [hop, Op.operands, Call.operands, hcal])]
      rw [argVals_congr (ev := ev) (ev' := ev') (l := c.args.toList) (fun x hx => hev x (by simp at hx; simp [hop, Op.operands, Call.operands, hx]))]
    · rename_i r name hcal
      rw [hev r (by simp [hop, Op.operands, Call.operands, hcal])]
      rw [argVals_congr (ev := ev) (ev' := ev') (l := c.args.toList) (fun x hx => hev x (by simp at hx; simp [hop, Op.operands, Call.operands, hx]))]
    · rfl
  · rfl

theorem call_congr {sp : Bool} {o : Oper} {σ σ' : St} {K K' : St → View → Prop} (hev : ∀ x ∈ o.op.operands, σ.ev x = σ'.ev x)
    (hk : ∀ s V', V.le V' → V'.Fin → K (σ.put o.dst s) V' → K' (σ'.put o.dst s) V') (h : callT P Shp sp o σ V K) : callT P Shp sp o σ' V K' := by
  revert h; unfold callT
  rw [callQ_congr hev]
  split
  · intro h
    exact h.mono' fun v V' hle hfin hr => resT_mono (fun s hs => fin_mono (fun s' hs' => hk s' V' hle hfin hs') hs) hr
  · exact id

/-- From a greater view a call comes to no less. -/
theorem CallV.wider {f : FuncId} {args : Array Value} {V V' : View} {R : Value → View → Prop} (hle : V.le V') (h : CallV P f args V R) :
    CallV P f args V' fun v V2 => ∃ V1, View.le V1 V2 ∧ View.le V V1 ∧ R v V1 := by
  intro w hw
  refine (h w (View.In_of_le hle hw)).mono fun e w' ⟨v, V1, he, hl1, hin1, hf1, hb, hr⟩ => ?_
  let V2 : View := fun i => match V' i with | some cs => some cs | none => V1 i
  have hinV' : V'.In w' := by
    intro b cs hb'
    obtain ⟨T, fr, hwb⟩ := hw b cs hb'
    refine ⟨T, fr, ?_⟩
    rw [hb.block b (by
      rcases Nat.lt_or_ge b w.heap.size with h | h
      · exact h
      · rw [Array.getElem?_eq_none h] at hwb; simp at hwb)]
    exact hwb
  refine ⟨v, V2, he, ?_, ?_, ?_, hb, V1, ?_, hl1, hr⟩
  · intro b cs hb'; simp [V2, hb']
  · intro b cs hb'
    simp only [V2] at hb'
    split at hb'
    · rename_i ds hd; cases hb'; exact hinV' b _ hd
    · exact hin1 b cs hb'
  · intro b cs hb'
    simp only [V2] at hb'
    split at hb'
    · rename_i ds hd; cases hb'; exact .inl hd
    · rename_i hd
      rcases hf1 b cs hb' with h1 | h1
      · rw [hle b cs h1] at hd; simp at hd
      · exact .inr h1
  · intro b cs hb'
    simp only [V2]
    split
    · rename_i ds hd
      obtain ⟨T, fr, h1⟩ := hinV' b ds hd
      obtain ⟨T', fr', h2⟩ := hin1 b cs hb'
      rw [h1] at h2; simp at h2; simp [h2.1]
    · exact hb'

/-- A step is one of three: the operation runs, is passed over, or neither. -/
theorem step_cases {an : An} {o : Oper} (h : stepT P Shp ops an o σ V K) :
    (guardOf ops o σ = some true ∧ actT P Shp an o σ V K) ∨ (guardOf ops o σ = some false ∧ K (σ.put o.dst (.val undef)) V) := by
  unfold stepT at h
  split at h
  · rename_i hg; exact .inl ⟨hg, h⟩
  · rename_i hg; exact .inr ⟨hg, h⟩
  · exact h.elim
theorem step_run {an : An} {o : Oper} (hg : guardOf ops o σ = some true) (h : actT P Shp an o σ V K) : stepT P Shp ops an o σ V K := by unfold stepT; rw [hg]; exact h
theorem step_pass {an : An} {o : Oper} (hg : guardOf ops o σ = some false) (h : K (σ.put o.dst (.val undef)) V) : stepT P Shp ops an o σ V K := by unfold stepT; rw [hg]; exact h

theorem act_build {an : An} {o : Oper} (hcl : clsA an = 1) : actT P Shp an o σ V K = buildT P o σ V K := by
  unfold actT
  split
  all_goals first
    | rfl
    | (rename_i h; simp [clsA, h] at hcl; done)
    | (simp [clsA] at hcl; split at hcl <;> simp_all)
theorem act_call {an : An} {o : Oper} (hcl : clsA an = 2) : actT P Shp an o σ V K = callT P Shp an.sp o σ V K := by
  unfold actT
  split
  all_goals first
    | rfl
    | (rename_i h; simp [clsA, h] at hcl; done)
    | (simp [clsA] at hcl; split at hcl <;> simp_all)
theorem act_app {an : An} {o : Oper} (hcl : clsA an = 5) : actT P Shp an o σ V K = appT P an.rt o σ V K := by
  unfold actT
  split
  all_goals first
    | rfl
    | (rename_i h; simp [clsA, h] at hcl; done)
    | (simp [clsA] at hcl; split at hcl <;> simp_all)
/-- What is known at once: a slice made, a full one appended to. -/
theorem act_known {an : An} {o : Oper} (hcl : clsA an = 4) : (∀ σ V K, actT P Shp an o σ V K = appFullT P o σ V K) ∨ (∀ σ V K, actT P Shp an o σ V K = makeT P o σ V K) := by
  have h : an.fl = 15 ∨ an.fl = 17 := by
    simp [clsA] at hcl; split at hcl <;> simp_all
  rcases h with h | h
  · exact .inl fun σ V K => by unfold actT; rw [h]; rfl
  · exact .inr fun σ V K => by unfold actT; rw [h]; rfl

theorem appQ_operands {o : Oper} {x y : Operand} {e : TypeId} {sz bs : Nat} (h : appQ P o = some (x, y, e, sz, bs)) : x ∈ o.op.operands ∧ y ∈ o.op.operands := by
  obtain ⟨t, i, z, hop, _⟩ := appQ_spec h
  simp [hop, Op.operands, Call.operands]
theorem appFull_congr {o : Oper} {σ σ' : St} {K K' : St → View → Prop} (hev : ∀ x ∈ o.op.operands, σ.ev x = σ'.ev x)
    (hk : ∀ s V', V.le V' → V'.Fin → K (σ.put o.dst s) V' → K' (σ'.put o.dst s) V') (h : appFullT P o σ V K) : appFullT P o σ' V K' := by
  revert h; unfold appFullT
  split
  · rename_i x y e sz bs hq
    obtain ⟨h1, h2⟩ := appQ_operands hq
    rw [hev x h1, hev y h2]
    split
    · rintro ⟨e0, xs, vs, a1, a2, a3, a4, a5, a6, h⟩
      exact ⟨e0, xs, vs, a1, a2, a3, a4, a5, a6, fun ra rc V' b1 b2 b3 b4 b5 => hk _ V' b1 b2 (h ra rc V' b1 b2 b3 b4 b5)⟩
    · exact id
  · exact id
theorem make_congr {o : Oper} {σ σ' : St} {K K' : St → View → Prop} (hev : ∀ x ∈ o.op.operands, σ.ev x = σ'.ev x)
    (hk : ∀ s V', V.le V' → V'.Fin → K (σ.put o.dst s) V' → K' (σ'.put o.dst s) V') (h : makeT P o σ V K) : makeT P o σ' V K' := by
  revert h; unfold makeT
  split
  · rename_i t n c hop
    rw [hev n (by simp [hop, Op.operands]), hev c (by simp [hop, Op.operands])]
    split
    · split
      · rintro ⟨h1, h⟩
        refine ⟨h1, ?_⟩
        revert h
        split
        · intro h b V' b1 b2 b3; exact hk _ V' b1 b2 (h b V' b1 b2 b3)
        · exact id
      · exact id
    · exact id
  · exact id
theorem known_congr {an : An} (hcl : clsA an = 4) {o : Oper} {σ σ' : St} {K K' : St → View → Prop} (hev : ∀ x ∈ o.op.operands, σ.ev x = σ'.ev x)
    (hk : ∀ s V', V.le V' → V'.Fin → K (σ.put o.dst s) V' → K' (σ'.put o.dst s) V') (h : actT P Shp an o σ V K) : actT P Shp an o σ' V K' := by
  rcases act_known (P := P) (Shp := Shp) (o := o) hcl with e | e
  · rw [e] at h ⊢; exact appFull_congr hev hk h
  · rw [e] at h ⊢; exact make_congr hev hk h

theorem ev_kill {σ : St} {id : Nat} (x : Operand) : (σ.kill id).ev x = killS id (σ.ev x) := by
  cases x with
  | tmp t =>
    simp only [St.ev, St.kill, List.getD, List.getElem?_map]
    cases σ.tm[t]? <;> rfl
  | const v => rfl
  | global g => rfl
  | func f => rfl
theorem guardOf_kill {ops : Array Oper} {o : Oper} {σ : St} {id : Nat} : guardOf ops o (σ.kill id) = guardOf ops o σ := by
  unfold guardOf
  cases o.guard with
  | none => rfl
  | some g =>
    obtain ⟨j, want⟩ := g
    simp only []
    cases (ops[j]?).bind (·.dst) with
    | none => rfl
    | some t =>
      simp only []
      have : (σ.kill id).tm.getD t .any = killS id (σ.tm.getD t .any) := ev_kill (.tmp t)
      rw [this]
      cases σ.tm.getD t .any with
      | lst i n c => by_cases e : i = id <;> simp [killS, e]
      | tlst i n c r => by_cases e : i = id <;> simp [killS, e]
      | _ => rfl
theorem own_kill {σ : St} {id r : Nat} : (σ.kill id).own[r]? = (σ.own[r]?).map (killO id) := by simp [St.kill]
theorem kill_put {σ : St} {id : Nat} {d : Option Tmp} {s : SV} : (σ.put d s).kill id = (σ.kill id).put d (killS id s) := by
  cases d with
  | none => rfl
  | some t => simp [St.put, St.kill, List.map_set]
theorem kill_setOwn {σ : St} {id r : Nat} {ob : Option OB} : (σ.setOwn r ob).kill id = (σ.kill id).setOwn r (killO id ob) := by simp [St.setOwn, St.kill, List.map_set]

theorem EA_kill {id : Nat} {an : An} {o : Oper} {g : Option Bool} {ev : Operand → SV} {blk : Option (Option OB)} {s : SV} {ob : Option OB} (hb : blindOp o an = true) (h : EA P Shp an o g ev blk V s ob) :
    EA P Shp an o g (fun x => killS id (ev x)) (blk.map (killO id)) V (killS id s) (killO id ob) := by
  cases g with
  | none => exact h
  | some g =>
    cases g with
    | false =>
      obtain ⟨rfl, h⟩ := h
      refine ⟨rfl, ?_⟩
      rcases h with rfl | rfl
      · exact .inl rfl
      · exact .inr rfl
    | true =>
      simp only [EA] at h ⊢
      unfold blindOp at hb
      split at hb
      · rename_i hfl hsp hop
        unfold coreT at h ⊢
        rw [hfl] at h ⊢
        cases blk with
        | none => simp [corePlace, hop] at h
        | some b =>
          simp only [corePlace, hop, hsp, fin, Option.map_some] at h ⊢
          split at h
          · rename_i he hq
            rw [he]
            simp only [killS, hq]
            obtain ⟨rfl, rfl⟩ := h
            exact ⟨rfl, rfl⟩
          · exact h.elim
      · rename_i hfl hsp hop
        unfold coreT at h ⊢
        rw [hfl] at h ⊢
        simp only [coreMove, hop, hsp, fin] at h ⊢
        cases blk with
        | none => exact h.elim
        | some b => obtain ⟨rfl, rfl⟩ := h; exact ⟨rfl, rfl⟩
      · rename_i hfl hsp hop
        unfold coreT at h ⊢
        rw [hfl] at h ⊢
        simp only [coreMove, hop, hsp, fin] at h ⊢
        cases blk with
        | none => exact h.elim
        | some b => obtain ⟨rfl, rfl⟩ := h; exact ⟨rfl, rfl⟩
      · simp at hb

/-- An append is taken before an operation to which lists mean nothing. -/
theorem swapA5 (hap : ox.apart ops oy = true) (hb : blindOp oy ay = true) (hx : clsA ax = 5) (hrt : ay.rt ≠ ax.rt)
    (h : stepT P Shp ops ay oy σ V fun σ1 V1 => stepT P Shp ops ax ox σ1 V1 K) : stepT P Shp ops ax ox σ V fun σ1 V1 => stepT P Shp ops ay oy σ1 V1 K := by
  have hy : clsA ay = 0 := by
    unfold blindOp at hb; unfold clsA
    split at hb
    · rename_i h _ _; rw [h]; rfl
    · rename_i h _ _; rw [h]; rfl
    · rename_i h _ _; rw [h]; rfl
    · simp at hb
  obtain ⟨hdx, hdd, hdy⟩ := Oper.apart_spec hap
  obtain ⟨sy, oby, hEy, h⟩ := A_elim hy h
  have hev : ∀ x ∈ ox.op.operands, ((σ.setOwn ay.rt oby).put oy.dst sy).ev x = σ.ev x := fun x hx => by rw [ev_put (operand_looks hdy x hx), ev_setOwn]
  have hg : guardOf ops ox ((σ.setOwn ay.rt oby).put oy.dst sy) = guardOf ops ox σ := by rw [guardOf_put hdy, guardOf_setOwn]
  rcases step_cases h with ⟨g, h⟩ | ⟨g, h⟩
  · rw [hg] at g
    refine step_run g ?_
    rw [act_app hx] at h ⊢
    unfold appT at h ⊢
    split at h
    · rename_i x y e sz bs hq
      obtain ⟨m1, m2⟩ := appQ_operands hq
      rw [hev x m1, hev y m2, put_own, own_other hrt] at h
      revert h
      split
      · split
        · rintro ⟨xs, vs, a1, a2, a3, a4, a5, a6, h⟩
          refine ⟨xs, vs, a1, a2, a3, a4, a5, a6, fun cap' l' hok => ?_⟩
          have hk := h cap' l' hok
          refine A_intro hy (s := killS ax.rt sy) (ob := killO ax.rt oby) ?_ ?_
          · rw [guardOf_put hdx, guardOf_setOwn, guardOf_kill, put_own, own_other (fun e => hrt e.symm), own_kill]
            refine EA_congr (fun x hx => ?_) (EA_kill hb hEy)
            rw [ev_put (operand_looks hdx x hx), ev_setOwn, ev_kill]
          · have e1 : ∀ (X : SV) (L : Option OB), ((((σ.kill ax.rt).setOwn ax.rt L).put ox.dst X).setOwn ay.rt (killO ax.rt oby)).put oy.dst (killS ax.rt sy) =
                ((((σ.setOwn ay.rt oby).put oy.dst sy).kill ax.rt).setOwn ax.rt L).put ox.dst X := by
              intro X L
              rw [kill_put, kill_setOwn, setOwn_put (σ := (σ.kill ax.rt).setOwn ax.rt L), setOwn_put (σ := (σ.kill ax.rt).setOwn ay.rt (killO ax.rt oby)), St.put_comm hdd, setOwn_comm hrt]
            rw [e1]; exact hk
        · exact fun h => h.elim
      · exact fun h => h.elim
    · exact h.elim
  · rw [hg] at g
    refine step_pass g (A_intro hy (s := sy) (ob := oby) ?_ ?_)
    · rw [guardOf_put hdx, put_own]
      exact EA_congr (fun x hx => by rw [ev_put (operand_looks hdx x hx)]) hEy
    · rw [setOwn_put, St.put_comm hdd]; exact h

/-- A build or a call is taken before an operation that calls nothing. -/
theorem swapA_ (hap : ox.apart ops oy = true) (hy : clsA ay = 0) (hx : clsA ax = 1 ∨ clsA ax = 2 ∨ clsA ax = 4)
    (h : stepT P Shp ops ay oy σ V fun σ1 V1 => stepT P Shp ops ax ox σ1 V1 K) : stepT P Shp ops ax ox σ V fun σ1 V1 => stepT P Shp ops ay oy σ1 V1 K := by
  obtain ⟨hdx, hdd, hdy⟩ := Oper.apart_spec hap
  obtain ⟨sy, oby, hEy, h⟩ := A_elim hy h
  have hfin : ∀ s V', V.le V' → K (((σ.setOwn ay.rt oby).put oy.dst sy).put ox.dst s) V' → stepT P Shp ops ay oy (σ.put ox.dst s) V' K := by
    intro s V' hle hk
    refine A_intro hy (s := sy) (ob := oby) ?_ ?_
    · rw [guardOf_put hdx, put_own]
      exact EA_view hle (EA_congr (fun x hx => by rw [ev_put (operand_looks hdx x hx)]) hEy)
    · rw [setOwn_put, St.put_comm hdd]; exact hk
  have hev : ∀ x ∈ ox.op.operands, ((σ.setOwn ay.rt oby).put oy.dst sy).ev x = σ.ev x := fun x hx => by rw [ev_put (operand_looks hdy x hx), ev_setOwn]
  have hg : guardOf ops ox ((σ.setOwn ay.rt oby).put oy.dst sy) = guardOf ops ox σ := by rw [guardOf_put hdy, guardOf_setOwn]
  rcases step_cases h with ⟨g, h⟩ | ⟨g, h⟩
  · rw [hg] at g
    refine step_run g ?_
    rcases hx with hx | hx | hx
    · rw [act_build hx] at h ⊢; exact build_congr hev (fun s V' hle _ => hfin s V' hle) h
    · rw [act_call hx] at h ⊢; exact call_congr hev (fun s V' hle _ => hfin s V' hle) h
    · exact known_congr hx hev (fun s V' hle _ => hfin s V' hle) h
  · rw [hg] at g
    exact step_pass g (hfin _ V (View.le_refl V) h)

theorem step_B {an : An} {o : Oper} (hcl : clsA an = 1) {σ' : St} (hg : guardOf ops o σ' = guardOf ops o σ) (hev : ∀ x ∈ o.op.operands, σ'.ev x = σ.ev x) (h : stepT P Shp ops an o σ' V K) :
    (guardOf ops o σ = some true ∧ ∃ cells n, buildC P o σ.ev = some (cells, n) ∧ ∀ (b : Nat) (V' : View), V.le V' → V'.Fin → V' b = some cells → K (σ'.put o.dst (.val (.slice (some ⟨b, 0, none⟩) n n))) V') ∨
    (guardOf ops o σ = some false ∧ K (σ'.put o.dst (.val undef)) V) := by
  rcases step_cases h with ⟨g, h⟩ | ⟨g, h⟩
  · rw [hg] at g
    rw [act_build hcl] at h
    unfold buildT at h
    rw [buildC_congr hev] at h
    split at h
    · rename_i cells n hC; exact .inl ⟨g, cells, n, hC, h⟩
    · exact h.elim
  · rw [hg] at g
    exact .inr ⟨g, h⟩

theorem build_intro {an : An} {o : Oper} (hcl : clsA an = 1) (hg : guardOf ops o σ = some true) {cells : Array Value} {n : Nat} (hC : buildC P o σ.ev = some (cells, n))
    (h : ∀ (b : Nat) (V' : View), V.le V' → V'.Fin → V' b = some cells → K (σ.put o.dst (.val (.slice (some ⟨b, 0, none⟩) n n))) V') : stepT P Shp ops an o σ V K := by
  refine step_run hg ?_
  rw [act_build hcl]
  unfold buildT
  rw [hC]
  exact h

theorem View.Fin.more {V : View} (h : V.Fin) (cells : Array Value) : ∃ b V', View.le V V' ∧ V'.Fin ∧ V' b = some cells := by
  obtain ⟨n, hn⟩ := h
  refine ⟨n, fun i => if i = n then some cells else V i, View.set_le (hn n (Nat.le_refl n)), ⟨n + 1, fun b hb => ?_⟩, by simp⟩
  have : b ≠ n := by omega
  simp [this, hn b (by omega)]

/-- A build is taken before a build, or before a call. -/
theorem swap_B (hV : V.Fin) (hap : ox.apart ops oy = true) (hy : clsA ay = 1 ∨ clsA ay = 2) (hx : clsA ax = 1)
    (h : stepT P Shp ops ay oy σ V fun σ1 V1 => stepT P Shp ops ax ox σ1 V1 K) : stepT P Shp ops ax ox σ V fun σ1 V1 => stepT P Shp ops ay oy σ1 V1 K := by
  obtain ⟨hdx, hdd, hdy⟩ := Oper.apart_spec hap
  have evx : ∀ s, ∀ x ∈ ox.op.operands, (σ.put oy.dst s).ev x = σ.ev x := fun s x hx => ev_put (operand_looks hdy x hx)
  have evy : ∀ s, ∀ x ∈ oy.op.operands, (σ.put ox.dst s).ev x = σ.ev x := fun s x hx => ev_put (operand_looks hdx x hx)
  have gx : ∀ s, guardOf ops ox (σ.put oy.dst s) = guardOf ops ox σ := fun s => guardOf_put hdy
  have gy : ∀ s, guardOf ops oy (σ.put ox.dst s) = guardOf ops oy σ := fun s => guardOf_put hdx
  rcases step_cases h with ⟨g, h⟩ | ⟨g, h⟩
  · rcases hy with hy | hy
    · rw [act_build hy] at h
      unfold buildT at h
      split at h
      · rename_i cy ny hCy
        obtain ⟨b0, V0, hle0, hfin0, hb0⟩ := hV.more cy
        rcases step_B hx (gx _) (evx _) (h b0 V0 hle0 hfin0 hb0) with ⟨gX, cx, nx, hCx, _⟩ | ⟨gX, _⟩
        · refine build_intro hx gX hCx fun b V' hle hfin hb => ?_
          refine build_intro hy (by rw [gy]; exact g) (by rw [buildC_congr (evy _)]; exact hCy) fun b2 V2 hle2 hfin2 hb2 => ?_
          rcases step_B hx (gx _) (evx _) (h b2 V2 (View.le_trans hle hle2) hfin2 hb2) with ⟨_, cx', nx', hCx', hk⟩ | ⟨gX', _⟩
          · rw [hCx] at hCx'; cases hCx'
            have := hk b V2 (View.le_refl _) hfin2 (hle2 _ _ hb)
            rw [St.put_comm hdd]; exact this
          · rw [gX] at gX'; cases gX'
        · refine step_pass gX ?_
          refine build_intro hy (by rw [gy]; exact g) (by rw [buildC_congr (evy _)]; exact hCy) fun b2 V2 hle2 hfin2 hb2 => ?_
          rcases step_B hx (gx _) (evx _) (h b2 V2 hle2 hfin2 hb2) with ⟨gX', _⟩ | ⟨_, hk⟩
          · rw [gX] at gX'; cases gX'
          · rw [St.put_comm hdd]; exact hk
      · exact h.elim
    · rw [act_call hy] at h
      unfold callT at h
      split at h
      · rename_i f vs hq
        have hq' : ∀ s, callQ P oy (σ.put ox.dst s).ev = some (f, vs) := fun s => by rw [callQ_congr (evy s)]; exact hq
        obtain ⟨v0, V0, hle0, hfin0, hr0⟩ := h.inst hV
        obtain ⟨s0, hk0, _⟩ := fin_ex (resT_spec hr0)
        have hcall : ∀ s V', V.le V' → V'.Fin → (∀ s' V1 V2, V.le V1 → V1.le V2 → V'.le V2 → V2.Fin → stepT P Shp ops ax ox (σ.put oy.dst s') V1 K → K ((σ.put ox.dst s).put oy.dst s') V2) →
            stepT P Shp ops ay oy (σ.put ox.dst s) V' K := by
          intro s V' hle hfin hK
          refine step_run (by rw [gy]; exact g) ?_
          rw [act_call hy]
          unfold callT
          rw [hq' s]
          refine (CallV.wider hle h).mono' fun v V2 hle2 hfin2 ⟨V1, hl12, hl1, hr⟩ => ?_
          exact resT_mono (fun s hs => fin_mono (fun s' hs' => hK s' V1 V2 hl1 hl12 hle2 hfin2 hs') hs) hr
        rcases step_B hx (gx _) (evx _) hk0 with ⟨gX, cx, nx, hCx, _⟩ | ⟨gX, _⟩
        · refine build_intro hx gX hCx fun b V' hle hfin hb => hcall _ V' hle hfin fun s' V1 V2 hl1 hl12 hl2 hfin2 hs => ?_
          rcases step_B hx (gx _) (evx _) hs with ⟨_, cx', nx', hCx', hk⟩ | ⟨gX', _⟩
          · rw [hCx] at hCx'; cases hCx'
            have := hk b V2 hl12 hfin2 (hl2 _ _ hb)
            rw [St.put_comm hdd]; exact this
          · rw [gX] at gX'; cases gX'
        · refine step_pass gX (step_run (by rw [gy]; exact g) ?_)
          rw [act_call hy]
          unfold callT
          rw [hq' (.val undef)]
          refine h.mono' fun v V1 hl1 hf1 hr => resT_mono (fun s hs => fin_mono (fun s' hs' => ?_) hs) hr
          rcases step_B hx (gx _) (evx _) hs' with ⟨gX', _⟩ | ⟨_, hk⟩
          · rw [gX] at gX'; cases gX'
          · rw [St.put_comm hdd]; exact hk
      · exact h.elim
  · rcases step_B hx (gx _) (evx _) h with ⟨gX, cx, nx, hCx, hk⟩ | ⟨gX, hk⟩
    · refine build_intro hx gX hCx fun b V' hle hfin hb => step_pass (by rw [gy]; exact g) ?_
      rw [St.put_comm hdd]; exact hk b V' hle hfin hb
    · refine step_pass gX (step_pass (by rw [gy]; exact g) ?_)
      rw [St.put_comm hdd]; exact hk
end swap

end Go.Vc

namespace Go.Vc
open Go Go.RowKit

section mono
variable {P : Program} {Shp : Shapes} {ops : Array Oper} {σ : St} {V : View} {K K' : St → View → Prop}

theorem callD_mono {sp : Bool} {o : Oper} (hk : ∀ σ' V', V.le V' → V'.Fin → K σ' V' → K' σ' V') (h : callDT P Shp sp o σ V K) : callDT P Shp sp o σ V K' := by
  revert h; unfold callDT
  split
  · split
    · intro h w b hw h1 h2
      refine (h w b hw h1 h2).mono fun e w' ⟨v, V', l', he, hle, hin, hf, hb, h3, h4, r⟩ => ⟨v, V', l', he, hle, hin, hf, hb, h3, h4, ?_⟩
      exact resT_mono (fun s => fin_mono fun s => hk _ V' hle hin.fin) r
    · exact id
  · exact id

theorem app_mono {rt : Nat} {o : Oper} (hV : V.Fin) (hk : ∀ σ' V', V.le V' → V'.Fin → K σ' V' → K' σ' V') (h : appT P rt o σ V K) : appT P rt o σ V K' := by
  revert h; unfold appT
  split
  · split
    · split
      · rintro ⟨xs, vs, a1, a2, a3, a4, a5, a6, h⟩
        exact ⟨xs, vs, a1, a2, a3, a4, a5, a6, fun cap' l' hok => hk _ V (View.le_refl V) hV (h cap' l' hok)⟩
      · exact id
    · exact id
  · exact id

theorem callO_mono {sol : Bool} {rt : Nat} {o : Oper} (hk : ∀ σ' V', V.le V' → V'.Fin → K σ' V' → K' σ' V') (h : callOT P Shp sol rt o σ V K) : callOT P Shp sol rt o σ V K' := by
  revert h; unfold callOT
  split
  · split
    · split
      · intro h w hw
        refine (h w hw).mono fun e w' ⟨b, n, cap, l, rest, V', a1, a2, a3, a4, a5, a6, a7, a8⟩ => ⟨b, n, cap, l, rest, V', a1, a2, a3, a4, a5, a6, a7, ?_⟩
        cases sol with
        | false => exact hk _ V' a2 a3.fin a8
        | true => exact ⟨a8.1, hk _ V' a2 a3.fin a8.2⟩
      · exact id
    · split
      · intro h w hw
        exact (h w hw).mono fun e w' ⟨b, n, cap, l, rest, V', a1, a2, a3, a4, a5, a6, x, a7, a8⟩ => ⟨b, n, cap, l, rest, V', a1, a2, a3, a4, a5, a6, x, a7, hk _ V' a2 a3.fin a8⟩
      · exact id
    · exact id
  · exact id
theorem callDS_mono {o : Oper} (hk : ∀ σ' V', V.le V' → V'.Fin → K σ' V' → K' σ' V') (h : callDST P o σ V K) : callDST P o σ V K' := by
  revert h; unfold callDST
  split
  · split
    · intro h w b hw h1 h2
      exact (h w b hw h1 h2).mono fun e w' ⟨V', l', he, hle, hin, hf, hb, h3, h4, r⟩ => ⟨V', l', he, hle, hin, hf, hb, h3, h4, hk _ V' hle hin.fin r⟩
    · exact id
  · exact id

theorem act_mono {an : An} {o : Oper} (hV : V.Fin) (hk : ∀ σ' V', V.le V' → V'.Fin → K σ' V' → K' σ' V') (h : actT P Shp an o σ V K) : actT P Shp an o σ V K' := by
  revert h; unfold actT
  split
  · exact call_congr (fun _ _ => rfl) (fun s V' hle hfin => hk _ V' hle hfin)
  · exact build_congr (fun _ _ => rfl) (fun s V' hle hfin => hk _ V' hle hfin)
  · exact callD_mono hk
  · exact app_mono hV hk
  · exact appFull_congr (fun _ _ => rfl) (fun s V' hle hfin => hk _ V' hle hfin)
  · exact make_congr (fun _ _ => rfl) (fun s V' hle hfin => hk _ V' hle hfin)
  · exact callO_mono hk
  · exact callDS_mono hk
  · exact coreT_mono fun s ob => fin_mono fun s' => hk _ V (View.le_refl V) hV

theorem step_mono {an : An} {o : Oper} (hV : V.Fin) (hk : ∀ σ' V', V.le V' → V'.Fin → K σ' V' → K' σ' V') (h : stepT P Shp ops an o σ V K) : stepT P Shp ops an o σ V K' := by
  rcases step_cases h with ⟨g, h⟩ | ⟨g, h⟩
  · exact step_run g (act_mono hV hk h)
  · exact step_pass g (hk _ V (View.le_refl V) hV h)

theorem vcOps_mono : ∀ {l : List (Oper × An)} {σ : St} {V : View}, V.Fin → (∀ σ' V', V.le V' → V'.Fin → K σ' V' → K' σ' V') → vcOps P Shp ops l σ V K → vcOps P Shp ops l σ V K'
  | [], σ, V, hV, hk, h => hk _ _ (View.le_refl V) hV h
  | (o, an) :: l, σ, V, hV, hk, h => step_mono hV (fun σ' V' hle hfin h' => vcOps_mono hfin (fun σ2 V2 hle2 hfin2 => hk σ2 V2 (View.le_trans hle hle2) hfin2) h') h

theorem clsA_cases (an : An) : clsA an = 0 ∨ clsA an = 1 ∨ clsA an = 2 ∨ clsA an = 3 ∨ clsA an = 4 ∨ clsA an = 5 := by
  unfold clsA; split <;> simp

theorem swap {y x : Oper × An} (hV : V.Fin) (hi : indepT ops y x = true)
    (h : stepT P Shp ops y.2 y.1 σ V fun σ1 V1 => stepT P Shp ops x.2 x.1 σ1 V1 K) : stepT P Shp ops x.2 x.1 σ V fun σ1 V1 => stepT P Shp ops y.2 y.1 σ1 V1 K := by
  unfold indepT at hi
  simp only [Bool.and_eq_true] at hi
  obtain ⟨hap, hc⟩ := hi
  rcases clsA_cases y.2 with hy | hy | hy | hy | hy | hy <;> rcases clsA_cases x.2 with hx | hx | hx | hx | hx | hx <;> simp [hy, hx] at hc
  · refine swapAA hap hy hx ?_ h
    rcases hc with h1 | h1
    · exact .inl (fun e => by simp [e] at h1)
    · exact .inr h1
  · exact swapA_ hap hy (.inl hx) h
  · exact swapA_ hap hy (.inr (.inl hx)) h
  · exact swapA_ hap hy (.inr (.inr hx)) h
  · exact swapA5 hap hc.1 hx (fun e => by have h2 := hc.2; rw [e] at h2; simp at h2) h
  · exact swap_B hV hap (.inl hy) hx h
  · exact swap_B hV hap (.inr hy) hx h

theorem bubble {x : Oper × An} {s : List (Oper × An)} : ∀ {p : List (Oper × An)} {σ : St} {V : View}, V.Fin → (∀ y ∈ p, indepT ops y x = true) →
    vcOps P Shp ops (p ++ x :: s) σ V K → vcOps P Shp ops (x :: (p ++ s)) σ V K
  | [], _, _, _, _, h => h
  | y :: p, σ, V, hV, hp, h => by
    have h1 : stepT P Shp ops y.2 y.1 σ V fun σ1 V1 => stepT P Shp ops x.2 x.1 σ1 V1 fun σ2 V2 => vcOps P Shp ops (p ++ s) σ2 V2 K :=
      step_mono hV (fun σ' V' hle hfin h' => bubble (p := p) hfin (fun z hz => hp z (by simp [hz])) h') h
    exact swap hV (hp y (by simp)) h1
end mono

/-- The operations that must come before an operation, in every order. -/
def dpreds (ops : Array Oper) (i : Nat) : List Nat :=
  match ops[i]? with
  | some o => (o.after.toList.filter fun e => Region.binds .any e).map (·.on)
  | none => []

def itemsOf (ops : Array Oper) (canon : List (Nat × An)) : List (Nat × (Oper × An)) := canon.map fun (i, an) => (i, (ops.getD i default, an))

def maskOf (ops : Array Oper) (masks : List Nat) (i : Nat) : Nat := (dpreds ops i).foldl (fun s e => s ||| (1 <<< e) ||| masks.getD e 0) 0

def pairOk (ops : Array Oper) (masks : List Nat) (y x : Nat × (Oper × An)) : Bool :=
  !(dpreds ops y.1).contains x.1 && ((masks.getD x.1 0).testBit y.1 || indepT ops y.2 x.2)

def pairwiseB {α : Type} (r : α → α → Bool) : List α → Bool
  | [] => true
  | x :: l => l.all (r x) && pairwiseB r l

/-- The order that is walked stands for all. -/
def drawOk (ops : Array Oper) (canon : List (Nat × An)) (masks : List Nat) : Bool :=
  Nat.beq canon.length ops.size && pairwiseB (fun a b => !(Nat.beq a b)) (canon.map (·.1)) && canon.all (fun p => Nat.blt p.1 ops.size) &&
  (List.range ops.size).all (fun i => (canon.map (·.1)).contains i) &&
  (List.range ops.size).all (fun i => (dpreds ops i).all (fun e => Nat.blt e ops.size && !(Nat.beq e i)) && Nat.beq (masks.getD i 0) (maskOf ops masks i)) &&
  pairwiseB (pairOk ops masks) (itemsOf ops canon)

theorem pairwiseB_spec {α : Type} {r : α → α → Bool} : ∀ {l : List α}, pairwiseB r l = true → l.Pairwise (fun a b => r a b = true)
  | [], _ => .nil
  | x :: l, h => by
    simp only [pairwiseB, Bool.and_eq_true, List.all_eq_true] at h
    exact .cons (fun y hy => h.1 y hy) (pairwiseB_spec h.2)

theorem foldl_testBit (masks : List Nat) (y : Nat) : ∀ (l : List Nat) (s : Nat), (l.foldl (fun s e => s ||| (1 <<< e) ||| masks.getD e 0) s).testBit y = true →
    s.testBit y = true ∨ ∃ e ∈ l, y = e ∨ (masks.getD e 0).testBit y = true
  | [], s, h => .inl h
  | e :: l, s, h => by
    simp only [List.foldl_cons] at h
    rcases foldl_testBit masks y l _ h with h1 | ⟨e', he', h1⟩
    · rw [Nat.testBit_or, Nat.testBit_or, Bool.or_eq_true, Bool.or_eq_true] at h1
      rcases h1 with (h1 | h1) | h1
      · exact .inl h1
      · refine .inr ⟨e, by simp, .inl ?_⟩
        rw [Nat.one_shiftLeft, Nat.testBit_two_pow] at h1
        simpa using Eq.symm (of_decide_eq_true h1)
      · exact .inr ⟨e, by simp, .inr h1⟩
    · exact .inr ⟨e', by simp [he'], h1⟩

structure Listed (ops : Array Oper) (canon : List (Nat × An)) (masks : List Nat) (listed : Array Bool) (L : List (Nat × (Oper × An))) : Prop where
  size : listed.size = ops.size
  sub : L.Sublist (itemsOf ops canon)
  iff : ∀ i, i < ops.size → (listed.getD i false = true ↔ i ∉ L.map (·.1))
  clos : ∀ i, listed.getD i false = true → ∀ y, (masks.getD i 0).testBit y = true → listed.getD y false = true

section draw
variable {P : Program} {Shp : Shapes} {ops : Array Oper} {canon : List (Nat × An)} {masks : List Nat} {B : List (Nat × Nat)} {w0 : Base} {K : St → View → Prop} {Q : Exit → Act → World → Prop}

theorem drawOk_spec (h : drawOk ops canon masks = true) : canon.length = ops.size ∧ (canon.map (·.1)).Nodup ∧ (∀ i, i < ops.size → i ∈ canon.map (·.1)) ∧ (∀ i, i ∈ canon.map (·.1) → i < ops.size) ∧
    (∀ i, i < ops.size → ∀ e ∈ dpreds ops i, e < ops.size ∧ e ≠ i) ∧ (∀ i, i < ops.size → masks.getD i 0 = maskOf ops masks i) ∧
    (itemsOf ops canon).Pairwise (fun y x => pairOk ops masks y x = true) := by
  simp only [drawOk, Bool.and_eq_true, List.all_eq_true] at h
  obtain ⟨⟨⟨⟨⟨hz, h0⟩, h1⟩, h2⟩, h3⟩, h4⟩ := h
  refine ⟨Nat.eq_of_beq_eq_true hz, ?_, fun i hi => by simpa using h2 i (by simpa using hi), ?_, fun i hi e he => ?_, fun i hi => Nat.eq_of_beq_eq_true (h3 i (by simpa using hi)).2, pairwiseB_spec h4⟩
  · exact (pairwiseB_spec h0).imp (fun {a b} hab => by rintro rfl; simp at hab)
  · intro i hi
    obtain ⟨p, hp, rfl⟩ := List.mem_map.1 hi
    have := h1 p hp
    simpa [Nat.blt_eq] using this
  · have := (h3 i (by simpa using hi)).1 e he
    simp only [Bool.not_eq_true'] at this
    exact ⟨by simpa [Nat.blt_eq] using this.1, by rintro rfl; simp at this⟩

theorem mem_split {α : Type} {x : α} : ∀ {l : List α}, x ∈ l → ∃ p s, l = p ++ x :: s
  | y :: l, h => by
    rcases List.mem_cons.1 h with rfl | h
    · exact ⟨[], l, rfl⟩
    · obtain ⟨p, s, rfl⟩ := mem_split h
      exact ⟨y :: p, s, rfl⟩

theorem ready_iff {listed : Array Bool} {i : Nat} : i ∈ Region.ready .any ops listed ↔ i < ops.size ∧ listed.getD i true = false ∧ ∀ e ∈ dpreds ops i, listed.getD e false = true := by
  simp only [Region.ready, List.mem_filter, List.mem_range, Bool.and_eq_true, Bool.not_eq_true']
  constructor
  · rintro ⟨h1, h2, h3⟩
    refine ⟨h1, h2, ?_⟩
    intro e he
    simp only [dpreds, Array.getElem?_eq_getElem h1, List.mem_map, List.mem_filter] at he
    obtain ⟨ed, ⟨hed, hb⟩, rfl⟩ := he
    simp only [Array.getElem?_eq_getElem h1, Option.map_some, Option.getD_some, Array.all_eq_true'] at h3
    have := h3 ed (by simpa using hed)
    simpa [hb] using this
  · rintro ⟨h1, h2, h3⟩
    refine ⟨h1, h2, ?_⟩
    simp only [Array.getElem?_eq_getElem h1, Option.map_some, Option.getD_some, Array.all_eq_true']
    intro ed hed
    by_cases hb : Region.binds .any ed = true
    · have := h3 ed.on (by
        simp only [dpreds, Array.getElem?_eq_getElem h1, List.mem_map, List.mem_filter]
        exact ⟨ed, ⟨by simpa using hed, hb⟩, rfl⟩)
      simp [this]
    · simp [hb]

theorem draw_sound (hok : drawOk ops canon masks = true) (hK : ∀ σ' V' a' w' addr', Conc B w0 σ' V' a' w' addr' → K σ' V' → Q .normal a' w') :
    ∀ (fuel : Nat) (listed : Array Bool) (L : List (Nat × (Oper × An))) (σ : St) (V : View) (a : Act) (w : World) (addr : Nat → Nat),
      Conc B w0 σ V a w addr → Listed ops canon masks listed L → L.length ≤ fuel → vcOps P Shp ops (L.map (·.2)) σ V K → wpAny P .any ops Q fuel listed a w := by
  obtain ⟨_, hnd, hall, hlt, hpr, hmask, hpw⟩ := drawOk_spec hok
  have hnone : ∀ {listed : Array Bool} {L : List (Nat × (Oper × An))}, Listed ops canon masks listed L → Region.ready .any ops listed = [] → L = [] := by
    intro listed L hL hr
    cases L with
    | nil => rfl
    | cons x l =>
      exfalso
      have hx : x ∈ itemsOf ops canon := hL.sub.subset (by simp)
      have hxi : x.1 < ops.size := by
        obtain ⟨p, hp, rfl⟩ := List.mem_map.1 hx
        exact hlt p.1 (List.mem_map.2 ⟨p, hp, rfl⟩)
      have hxl : listed.getD x.1 false = false := by
        cases hb : listed.getD x.1 false with
        | false => rfl
        | true => exact absurd (List.mem_map.2 ⟨x, by simp, rfl⟩) ((hL.iff _ hxi).1 hb)
      have hsz : x.1 < listed.size := by rw [hL.size]; exact hxi
      have : x.1 ∈ Region.ready .any ops listed := by
        rw [ready_iff]
        refine ⟨hxi, ?_, fun e he => ?_⟩
        · simpa [Array.getD_eq_getD_getElem?, hsz] using hxl
        · obtain ⟨he1, he2⟩ := hpr _ hxi e he
          cases hb : listed.getD e false with
          | true => rfl
          | false =>
            exfalso
            have : e ∈ (x :: l).map (·.1) := by
              rcases Decidable.em (e ∈ (x :: l).map (·.1)) with h | h
              · exact h
              · rw [(hL.iff e he1).2 h] at hb; simp at hb
            rcases List.mem_cons.1 this with h | h
            · exact he2 h
            · obtain ⟨z, hz, rfl⟩ := List.mem_map.1 h
              have := (List.pairwise_cons.1 (hpw.sublist hL.sub)).1 z hz
              simp only [pairOk, Bool.and_eq_true, Bool.not_eq_true'] at this
              have h2 := this.1
              simp [he] at h2
      rw [hr] at this; simp at this
  intro fuel
  induction fuel with
  | zero =>
    intro listed L σ V a w addr hc hL hlen h
    have hL0 : L = [] := List.length_eq_zero_iff.1 (by omega)
    subst hL0
    refine ⟨?_, hK _ _ _ _ _ hc h⟩
    rw [List.eq_nil_iff_forall_not_mem]
    intro i hi
    obtain ⟨h1, h2, _⟩ := ready_iff.1 hi
    have := (hL.iff i h1).2 (by simp)
    have hsz : i < listed.size := by rw [hL.size]; exact h1
    simp [Array.getD_eq_getD_getElem?, hsz] at this h2
    rw [this] at h2; simp at h2
  | succ fuel ih =>
    intro listed L σ V a w addr hc hL hlen h
    refine ⟨fun hr => ?_, fun i hi => ?_⟩
    · have hL0 := hnone hL hr
      subst hL0
      exact hK _ _ _ _ _ hc h
    · obtain ⟨h1, h2, h3⟩ := ready_iff.1 hi
      have hsz : i < listed.size := by rw [hL.size]; exact h1
      have hun : listed.getD i false = false := by
        simpa [Array.getD_eq_getD_getElem?, hsz] using h2
      have hmem : i ∈ L.map (·.1) := by
        rcases Decidable.em (i ∈ L.map (·.1)) with h | h
        · exact h
        · rw [(hL.iff i h1).2 h] at hun; simp at hun
      obtain ⟨x, hx, hxi⟩ := List.mem_map.1 hmem
      obtain ⟨p, s, rfl⟩ := mem_split hx
      have hxo : ops[i]? = some x.2.1 := by
        have : x ∈ itemsOf ops canon := hL.sub.subset hx
        obtain ⟨q, hq, rfl⟩ := List.mem_map.1 this
        simp only at hxi ⊢
        subst hxi
        simp [Array.getD_eq_getD_getElem?, h1]
      -- who stands before x may be passed
      have hind : ∀ y ∈ p.map (·.2), indepT ops y x.2 = true := by
        intro y' hy'
        obtain ⟨y, hy, rfl⟩ := List.mem_map.1 hy'
        have hpwL := hpw.sublist hL.sub
        have hyx := (List.pairwise_append.1 hpwL).2.2 y hy x (by simp)
        simp only [pairOk, Bool.and_eq_true, Bool.or_eq_true] at hyx
        rcases hyx.2 with hm | hm
        · exfalso
          have hy1 : y.1 < ops.size := by
            have : y ∈ itemsOf ops canon := hL.sub.subset (by simp [hy])
            obtain ⟨q, hq, rfl⟩ := List.mem_map.1 this
            exact hlt q.1 (List.mem_map.2 ⟨q, hq, rfl⟩)
          rw [hxi, hmask i h1] at hm
          have hyl : listed.getD y.1 false = true := by
            rcases foldl_testBit masks y.1 _ _ hm with h0 | ⟨e, he, h0 | h0⟩
            · simp at h0
            · rw [h0]; exact h3 e he
            · exact hL.clos e (h3 e he) y.1 h0
          exact (hL.iff y.1 hy1).1 hyl (List.mem_map.2 ⟨y, by simp [hy], rfl⟩)
        · exact hm
      have hb := bubble (p := p.map (·.2)) (x := x.2) (s := s.map (·.2)) hc.vin.fin hind (by simpa using h)
      simp only [wpOp, hxo]
      refine stepT_sound (K := fun σ1 V1 => vcOps P Shp ops ((p ++ s).map (·.2)) σ1 V1 K) hc (fun σ' V' a' w' addr' hle hc' hk => ?_) (by simpa [vcOps] using hb)
      refine ih _ (p ++ s) σ' V' a' w' addr' hc' ?_ (by simp at hlen ⊢; omega) hk
      have hset : ∀ j, j < ops.size → ((listed.setIfInBounds i true).getD j false = true ↔ j = i ∨ listed.getD j false = true) := by
        intro j hj
        have hj' : j < listed.size := by rw [hL.size]; exact hj
        by_cases e : i = j
        · subst e; simp [Array.getD_eq_getD_getElem?, hj']
        · have e' : ¬ j = i := fun h => e h.symm
          simp [Array.getD_eq_getD_getElem?, Array.getElem?_setIfInBounds_ne e, e']
      have hndL : ((p ++ x :: s).map (·.1)).Nodup := by
        have : ((itemsOf ops canon).map (·.1)) = canon.map (·.1) := by simp [itemsOf]
        exact (this ▸ hnd : ((itemsOf ops canon).map (·.1)).Nodup).sublist (hL.sub.map _)
      refine ⟨by simpa using hL.size, ?_, fun j hj => ?_, fun j hj y hy => ?_⟩
      · exact List.Sublist.trans (by simp) hL.sub
      · rw [hset j hj, hL.iff j hj]
        simp only [List.map_append, List.map_cons, List.mem_append, List.mem_cons, hxi]
        simp only [List.map_append, List.map_cons, List.nodup_append, List.nodup_cons, hxi] at hndL
        constructor
        · rintro (rfl | h)
          · rintro (h | h)
            · exact hndL.2.2 _ h _ (by simp) rfl
            · exact hndL.2.1.1 h
          · rintro (h' | h')
            · exact h (.inl h')
            · exact h (.inr (.inr h'))
        · intro h
          by_cases e : j = i
          · exact .inl e
          · refine .inr ?_
            rintro (h' | h' | h')
            · exact h (.inl h')
            · exact e h'
            · exact h (.inr h')
      · have hlj : j < ops.size := by
          rcases Nat.lt_or_ge j ops.size with h | h
          · exact h
          · have : (listed.setIfInBounds i true).size ≤ j := by simp [hL.size]; exact h
            simp [Array.getD_eq_getD_getElem?, Array.getElem?_eq_none this] at hj
        have hylist : listed.getD y false = true ∨ y = i := by
          rcases (hset j hlj).1 hj with rfl | hj
          · rw [hmask j h1] at hy
            rcases foldl_testBit masks y _ _ hy with h0 | ⟨e, he, h0 | h0⟩
            · simp at h0
            · rw [h0]; exact .inl (h3 e he)
            · exact .inl (hL.clos e (h3 e he) y h0)
          · exact .inl (hL.clos j hj y hy)
        have hylt : y < ops.size := by
          rcases hylist with h | h
          · rcases Nat.lt_or_ge y ops.size with h' | h'
            · exact h'
            · have : listed.size ≤ y := by rw [hL.size]; exact h'
              simp [Array.getD_eq_getD_getElem?, Array.getElem?_eq_none this] at h
          · rw [h]; exact h1
        rw [hset y hylt]
        exact hylist.symm
end draw
end Go.Vc
