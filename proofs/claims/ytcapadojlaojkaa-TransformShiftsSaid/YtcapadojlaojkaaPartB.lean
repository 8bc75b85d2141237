/- Part of the proof; it has the parts VcH VcS VLift P FNat1 VNat CNat1 VDiv VBit CNat2. -/
import Derived.Test.YtcapadojlaojkaaPartA
import Derived.WalkKit
import Derived.ProofKit
import Derived.OpenShut
import Derived.Test.YtcapadojlaojkaaProg
import Derived.IntWalk
namespace Go.Vc
open Go Go.RowKit

/-- Lists that are mostly empty. -/
def spT : Nat → Nat → List (Nat × SV) → List SV
  | 0, _, _ => []
  | n + 1, i, [] => .any :: spT n (i + 1) []
  | n + 1, i, (j, s) :: l => match Nat.beq i j with
    | true => s :: spT n (i + 1) l
    | false => .any :: spT n (i + 1) ((j, s) :: l)
def spO : Nat → Nat → List (Nat × OB) → List (Option OB)
  | 0, _, _ => []
  | n + 1, i, [] => none :: spO n (i + 1) []
  | n + 1, i, (j, s) :: l => match Nat.beq i j with
    | true => some s :: spO n (i + 1) l
    | false => none :: spO n (i + 1) ((j, s) :: l)

/-- What is asked of a symbolic state where another one is expected. -/
def fitsL : List SV → List SV → Prop
  | _, [] => True
  | [], t :: m => match t with | .any => fitsL [] m | _ => False
  | s :: l, t :: m => match t with | .any => fitsL l m | t => s = t ∧ fitsL l m
def fitsO : List (Option OB) → List (Option OB) → Prop
  | _, [] => True
  | [], t :: m => match t with | none => fitsO [] m | some _ => False
  | s :: l, t :: m => match t with | none => fitsO l m | some ob => s = some ob ∧ fitsO l m
def Fits (σ τ : St) : Prop :=
  match Nat.beq σ.tm.length τ.tm.length with
  | true => fitsL σ.tm τ.tm ∧ fitsO σ.own τ.own
  | false => False

/-- How code is to be walked. -/
inductive AC : Type 1
  | leaf
  | reg (ans : List An)
  | draw (canon : List (Nat × An)) (masks : List Nat)
  | seq (a b : AC)
  | cut (γ α : Type) (get : St → γ) (st : γ → α → St) (I : γ → α → View → Prop) (a b : AC)
  | cond (a b : AC)
  | block (a : AC)
  | loop (γ α : Type) (get : St → γ) (st : γ → α → St) (I : γ → α → View → Prop) (μ : γ → α → View → Nat) (a : AC)
  | pub (id : Nat) (a : AC)
  | adopt (t id : Nat) (ty : TypeId) (a : AC)
  | adoptC (b j id : Nat) (ty : TypeId) (a : AC)
  | solid (id : Nat) (a : AC)

/-- Parts of symbolic values, for what a loop keeps. -/
def gInt : SV → Int | .val (.int _ n) => n | _ => 0
def gSlA : SV → Option Addr | .val (.slice a _ _) => a | _ => none
def gSlL : SV → Nat | .val (.slice _ n _) => n | _ => 0
def gSlC : SV → Nat | .val (.slice _ _ c) => c | _ => 0
def gLen : SV → Nat | .osl _ _ n _ => n | .lst _ n _ => n | _ => 0
def gCap : SV → Nat | .osl _ _ _ c => c | .lst _ _ c => c | _ => 0
def gTm (σ : St) (i : Nat) : SV := σ.tm.getD i .any
def gDyn (σ : St) (id : Nat) : List Value := match σ.own.getD id none with | some ⟨_, .dyn l⟩ => l | some ⟨_, .list l⟩ => l | _ => []

def substS (id b : Nat) : SV → SV
  | .own i off => if i = id then .val (.pointer (some ⟨b, off, none⟩)) else .own i off
  | .osl i off len cap => if i = id then .val (.slice (some ⟨b, off, none⟩) len cap) else .osl i off len cap
  | .clo f ids => if ids.contains id then .any else .clo f ids
  | .lst i n cap => if i = id then .val (.slice (lstA b cap) n cap) else .lst i n cap
  | .tlst i n cap r => if i = id then .val (.tuple (Value.slice (lstA b cap) n cap :: r).toArray) else .tlst i n cap r
  | s => s
def substC (id b : Nat) : Cs → Cs
  | .fixed l => .fixed (l.map (substS id b))
  | .dyn l => .dyn l
  | .list l => .list l
def St.pubAt (σ : St) (id b : Nat) : St :=
  { tm := σ.tm.map (substS id b), own := (σ.own.map fun o => o.map fun ob => ⟨ob.ty, substC id b ob.cs⟩).set id none }
def cellsOf (cs : Cs) : Option (List Value) :=
  match cs with
  | .fixed l => allVals l
  | .dyn l => some l
  | .list l => some l

/-- A list that has cells is a slice like others. -/
def solidS (id : Nat) : SV → SV
  | .lst i n c => if i = id then .osl i 0 n c else .lst i n c
  | .tlst i n c r => if i = id then .any else .tlst i n c r
  | s => s
def solidC (id : Nat) : Cs → Cs
  | .fixed l => .fixed (l.map (solidS id))
  | .dyn l => .dyn l
  | .list l => .list l
def capsL (id : Nat) : List SV → Prop
  | [] => True
  | .lst i _ c :: l => match Nat.beq i id with
    | true => c ≠ 0 ∧ capsL id l
    | false => capsL id l
  | _ :: l => capsL id l
def capsO (id : Nat) : List (Option OB) → Prop
  | [] => True
  | some ⟨_, .fixed l⟩ :: r => capsL id l ∧ capsO id r
  | _ :: r => capsO id r
def St.solid (σ : St) (id : Nat) (ty : TypeId) (l : List Value) : St :=
  { tm := σ.tm.map (solidS id), own := (σ.own.map fun o => o.map fun ob => ⟨ob.ty, solidC id ob.cs⟩).set id (some ⟨ty, .dyn l⟩) }

/-- What is known of a block that is given up. -/
def pubK (cs : Cs) (p : Prop) : Prop :=
  match cs with
  | .list l => l ≠ [] → p
  | _ => p

/-- A state that is well made: whatever names an own block names a live one. -/
def liveS (own : List (Option OB)) : SV → Bool
  | .own id _ => Nat.beq (kind (own.getD id none)) 1
  | .osl id _ _ _ => Nat.beq (kind (own.getD id none)) 1
  | .clo _ ids => ids.all fun id => Nat.beq (kind (own.getD id none)) 1
  | .lst id _ _ => Nat.beq (kind (own.getD id none)) 2
  | .tlst id _ _ _ => Nat.beq (kind (own.getD id none)) 2
  | _ => true
def liveO (own : List (Option OB)) : Option OB → Bool
  | some ob => match ob.cs with
    | .fixed l => l.all (liveS own)
    | .dyn _ => true
    | .list _ => true
  | none => true
def wfB (Bl : List Nat) (τ : St) : Bool :=
  Nat.beq τ.own.length τ.tm.length && τ.tm.all (liveS τ.own) && τ.own.all (liveO τ.own) && Bl.all fun id => Nat.beq (kind (τ.own.getD id none)) 1

def vc (P : Program) (Shp : Shapes) (Bl : List Nat) : AC → Code → St → View → (Exit → St → View → Prop) → Prop
  | .leaf, c, σ, V, Q =>
    match c with
    | .skip => Q .normal σ V
    | .exit id => Q (.exit id) σ V
    | .ret => Q .ret σ V
    | _ => False
  | .reg ans, c, σ, V, Q =>
    match c with
    | .region _ ops false => match Nat.beq ans.length ops.size with
      | true => vcOps P Shp ops (ops.toList.zip ans) σ V fun σ' V' => Q .normal σ' V'
      | false => False
    | _ => False
  | .draw canon masks, c, σ, V, Q =>
    match c with
    | .region _ ops true => match drawOk ops canon masks with
      | true => vcOps P Shp ops ((itemsOf ops canon).map (·.2)) σ V fun σ' V' => Q .normal σ' V'
      | false => False
    | _ => False
  | .seq a b, c, σ, V, Q =>
    match c with
    | .seq x y => vc P Shp Bl a x σ V fun e σ' V' => match e with
      | .normal => vc P Shp Bl b y σ' V' Q
      | e => Q e σ' V'
    | _ => False
  | .cut γ α get st I a b, c, σ, V, Q =>
    match c with
    | .seq x y => (vc P Shp Bl a x σ V fun e σ' V' => match e with
        | .normal => ∃ x1 : α, Fits σ' (st (get σ) x1) ∧ I (get σ) x1 V'
        | e => Q e σ' V') ∧
      ∀ (x1 : α) (V1 : View), V.le V1 → I (get σ) x1 V1 → match wfB Bl (st (get σ) x1) with
        | true => vc P Shp Bl b y (st (get σ) x1) V1 Q
        | false => False
    | _ => False
  | .cond a b, c, σ, V, Q =>
    match c with
    | .cond t x y => match σ.ev t with
      | .lit true => vc P Shp Bl a x σ V Q
      | .lit false => vc P Shp Bl b y σ V Q
      | .val (.bool g) => (g = true → vc P Shp Bl a x σ V Q) ∧ (g = false → vc P Shp Bl b y σ V Q)
      | _ => False
    | _ => False
  | .block a, c, σ, V, Q =>
    match c with
    | .block id x => vc P Shp Bl a x σ V fun e σ' V' => match e with
      | .exit id' => match Nat.beq id' id with
        | true => Q .normal σ' V'
        | false => Q (.exit id') σ' V'
      | e => Q e σ' V'
    | _ => False
  | .loop γ α get st I μ a, c, σ, V, Q =>
    match c with
    | .loop x => (∃ x0 : α, Fits σ (st (get σ) x0) ∧ I (get σ) x0 V) ∧
      ∀ (x1 : α) (V1 : View), V.le V1 → I (get σ) x1 V1 → match wfB Bl (st (get σ) x1) with
        | true => vc P Shp Bl a x (st (get σ) x1) V1 fun e σ' V' => match e with
          | .normal => ∃ x2 : α, Fits σ' (st (get σ) x2) ∧ I (get σ) x2 V' ∧ μ (get σ) x2 V' < μ (get σ) x1 V1
          | e => Q e σ' V'
        | false => False
    | _ => False
  | .pub id a, c, σ, V, Q =>
    match σ.own[id]? with
    | some (some ob) => match cellsOf ob.cs, Bl.isEmpty with
      | some l, true => ∀ (b : Nat) (V' : View), V.le V' → pubK ob.cs (V' b = some l.toArray) → vc P Shp Bl a c (σ.pubAt id b) V' Q
      | _, _ => False
    | _ => False
  | .adopt t id ty a, c, σ, V, Q =>
    match σ.tm[t]?, σ.own[id]? with
    | some (.val (.slice none 0 0)), some none => vc P Shp Bl a c { tm := σ.tm.set t (.lst id 0 0), own := σ.own.set id (some ⟨ty, .list []⟩) } V Q
    | _, _ => False
  | .adoptC b j id ty a, c, σ, V, Q =>
    match σ.own[b]?, σ.own[id]? with
    | some (some ⟨tb, .fixed l⟩), some none => match l[j]? with
      | some (.val (.slice none 0 0)) => vc P Shp Bl a c { tm := σ.tm, own := (σ.own.set id (some ⟨ty, .list []⟩)).set b (some ⟨tb, .fixed (l.set j (.lst id 0 0))⟩) } V Q
      | _ => False
    | _, _ => False
  | .solid id a, c, σ, V, Q =>
    match σ.own[id]? with
    | some (some ⟨ty, .list l⟩) => (l ≠ [] ∧ capsL id σ.tm ∧ capsO id σ.own) ∧ vc P Shp Bl a c (σ.solid id ty l) V Q
    | _ => False

/-- The walk's promise. -/
def PostQ (B : List (Nat × Nat)) (w0 : Base) (V : View) (Q : Exit → St → View → Prop) (e : Exit) (a : Act) (w : World) : Prop :=
  ∃ σ' V' addr, V.le V' ∧ Conc B w0 σ' V' a w addr ∧ Q e σ' V'

theorem PostQ.le {B w0 V V1 Q e a w} (h : View.le V V1) (hq : PostQ B w0 V1 Q e a w) : PostQ B w0 V Q e a w :=
  let ⟨σ', V', addr, hle, hc, hk⟩ := hq; ⟨σ', V', addr, View.le_trans h hle, hc, hk⟩

theorem fitsL_spec : ∀ {l m : List SV}, fitsL l m → ∀ i, m.getD i .any = .any ∨ (i < l.length ∧ l.getD i .any = m.getD i .any)
  | _, [], _, i => .inl rfl
  | [], t :: m, h, i => by
    cases t <;> simp only [fitsL] at h
    cases i with
    | zero => exact .inl rfl
    | succ i => rcases fitsL_spec h i with h | h
                · exact .inl (by simpa using h)
                · simp at h
  | s :: l, t :: m, h, i => by
    by_cases ht : t = .any
    · subst ht
      simp only [fitsL] at h
      cases i with
      | zero => exact .inl rfl
      | succ i => rcases fitsL_spec h i with h | h
                  · exact .inl (by simpa using h)
                  · exact .inr ⟨by simpa using h.1, by simpa using h.2⟩
    · have h' : s = t ∧ fitsL l m := by cases t <;> first | exact h | exact absurd rfl ht
      cases i with
      | zero => exact .inr ⟨by simp, by simpa using h'.1⟩
      | succ i => rcases fitsL_spec h'.2 i with h | h
                  · exact .inl (by simpa using h)
                  · exact .inr ⟨by simpa using h.1, by simpa using h.2⟩
theorem fitsO_spec : ∀ {l m : List (Option OB)}, fitsO l m → ∀ i ob, m.getD i none = some ob → l.getD i none = some ob
  | _, [], _, i, ob, h => by simp at h
  | [], t :: m, h, i, ob, hm => by
    cases t <;> simp only [fitsO] at h
    cases i with
    | zero => simp at hm
    | succ i => have := fitsO_spec h i ob (by simpa using hm); simp at this
  | s :: l, t :: m, h, i, ob, hm => by
    cases t with
    | none =>
      simp only [fitsO] at h
      cases i with
      | zero => simp at hm
      | succ i => simpa using fitsO_spec h i ob (by simpa using hm)
    | some ob' =>
      simp only [fitsO] at h
      cases i with
      | zero => simp at hm; subst hm; simp [h.1]
      | succ i => simpa using fitsO_spec h.2 i ob (by simpa using hm)

theorem Conc.fits {B w0 σ τ V a w addr} {Bl : List Nat} (hc : Conc B w0 σ V a w addr) (h : Fits σ τ) (hB : B.map (·.1) = Bl) (hwf : wfB Bl τ = true) : Conc B w0 τ V a w addr := by
  simp only [wfB, Bool.and_eq_true] at hwf
  obtain ⟨⟨⟨hlo, hlv⟩, hlb⟩, hB2⟩ := hwf
  unfold Fits at h
  split at h
  case h_2 => exact h.elim
  rename_i hlt
  have hlt := Nat.eq_of_beq_eq_true hlt
  have hlo := Nat.eq_of_beq_eq_true hlo
  have hO := fitsO_spec h.2
  have hrel : ∀ {s : SV} {x : Value}, liveS τ.own s = true → Rel addr σ.own s x → Rel addr τ.own s x := by
    intro s x hl hr
    cases s with
    | own id off => exact ⟨Nat.eq_of_beq_eq_true hl, hr.2⟩
    | osl id off len cap => exact ⟨Nat.eq_of_beq_eq_true hl, hr.2⟩
    | clo f ids => exact ⟨fun id hid => Nat.eq_of_beq_eq_true (List.all_eq_true.1 hl id hid), hr.2⟩
    | lst id n cap => exact ⟨Nat.eq_of_beq_eq_true hl, hr.2⟩
    | tlst id n cap r => exact ⟨Nat.eq_of_beq_eq_true hl, hr.2⟩
    | _ => exact hr
  refine ⟨hc.size.trans hlt, hlo, fun i hi => ?_, hc.defers, fun id ob hob hre => ?_, fun id ob hob hre => hc.lo id ob (hO id ob hob) hre,
    fun p hp => ⟨(hc.lent p hp).1, Nat.eq_of_beq_eq_true (List.all_eq_true.1 hB2 p.1 (by rw [← hB]; exact List.mem_map.2 ⟨p, hp, rfl⟩))⟩,
    fun id ob hob hre => hc.out id ob (hO id ob hob) hre, fun id id' ob ob' h1 h2 hr1 hr2 => hc.inj id id' ob ob' (hO _ _ h1) (hO _ _ h2) hr1 hr2, hc.vin, hc.below, hc.fresh⟩
  · have hl : liveS τ.own (τ.tm.getD i .any) = true := by
      have := List.all_eq_true.1 hlv (τ.tm[i]) (List.getElem_mem _)
      simpa [List.getD, hi] using this
    rcases fitsL_spec h.1 i with h1 | ⟨h1, h2⟩
    · rw [h1]; trivial
    · rw [← h2] at hl ⊢; exact hrel hl (hc.rel i h1)
  · obtain ⟨arr, hw, hb⟩ := hc.blk id ob (hO id ob hob) hre
    refine ⟨arr, hw, ?_⟩
    obtain ⟨ty, cs⟩ := ob
    cases cs with
    | dyn l => exact hb
    | list l => exact hb
    | fixed l =>
      refine ⟨hb.1, fun i hi => ?_⟩
      have h1 : some ⟨ty, .fixed l⟩ ∈ τ.own := by
        have hid : id < τ.own.length := by
          rcases Nat.lt_or_ge id τ.own.length with h | h
          · exact h
          · simp [List.getD, List.getElem?_eq_none h] at hob
        have : τ.own[id] = some ⟨ty, .fixed l⟩ := by simpa [List.getD, hid] using hob
        rw [← this]; exact List.getElem_mem _
      have h2 := List.all_eq_true.1 hlb _ h1
      simp only [liveO] at h2
      have h3 := List.all_eq_true.1 h2 (l[i]) (List.getElem_mem _)
      have := hb.2 i hi
      refine hrel ?_ this
      simpa [List.getD, hi] using h3

theorem allVals_arr {addr own} {l : List SV} {vs : List Value} {arr : Array Value} (h : allVals l = some vs) (hb : BlkAt addr own (.fixed l) arr) : arr = vs.toArray := by
  have := allVals_rel (ys := arr.toList) h (by simpa using hb.1) (fun i hi => by simpa [List.getD, Array.getD_eq_getD_getElem?] using hb.2 i hi)
  apply Array.ext'
  simpa using this

theorem Rel.subst {addr own} {id : Nat} {own' : List (Option OB)} (hl : ∀ i, i ≠ id → kind (own'.getD i none) = kind (own.getD i none)) {s : SV} {x : Value}
    (h : Rel addr own s x) : Rel addr own' (substS id (addr id) s) x := by
  cases s with
  | own i off =>
    simp only [substS]; split
    · rename_i e; rw [h.2, e]; rfl
    · rename_i e; exact ⟨(hl i e).trans h.1, h.2⟩
  | osl i off len cap =>
    simp only [substS]; split
    · rename_i e; rw [h.2, e]; rfl
    · rename_i e; exact ⟨(hl i e).trans h.1, h.2⟩
  | clo f ids =>
    simp only [substS]; split
    · trivial
    · rename_i e
      refine ⟨fun i hi => (hl i ?_).trans (h.1 i hi), h.2⟩
      rintro rfl; simp at e; exact e hi
  | lst i n cap =>
    simp only [substS]; split
    · rename_i e; rw [h.2, e]; rfl
    · rename_i e; exact ⟨(hl i e).trans h.1, h.2⟩
  | tlst i n cap r =>
    simp only [substS]; split
    · rename_i e; rw [h.2, e]; rfl
    · rename_i e; exact ⟨(hl i e).trans h.1, h.2⟩
  | val v => exact h
  | lit b => exact h
  | any => trivial

/-- A block of the call's own is given up: it is known for good from here on. -/
theorem Conc.pub {B w0 σ V a w addr} (hc : Conc B w0 σ V a w addr) (hB : B = []) (hA : w0.A = []) {id : Nat} {ob : OB} (hob : σ.own[id]? = some (some ob)) {l : List Value}
    (hl : cellsOf ob.cs = some l) :
    ∃ V', View.le V V' ∧ pubK ob.cs (V' (addr id) = some l.toArray) ∧ Conc B w0 (σ.pubAt id (addr id)) V' a w addr := by
  have hg := getD_of hob
  have hget : ∀ i, (σ.pubAt id (addr id)).own.getD i none = if i = id then none else (σ.own.getD i none).map fun ob => ⟨ob.ty, substC id (addr id) ob.cs⟩ := by
    intro i
    simp only [St.pubAt, List.getD, List.getElem?_set, List.length_map]
    by_cases e : id = i
    · subst e; simp; split <;> rfl
    · have e' : ¬ i = id := fun h => e h.symm
      simp only [e, e', if_false, List.getElem?_map]
      cases σ.own[i]? <;> simp
  have hlive : ∀ i, i ≠ id → kind ((σ.pubAt id (addr id)).own.getD i none) = kind (σ.own.getD i none) := by
    intro i hi; rw [hget, if_neg hi]
    cases σ.own.getD i none with
    | none => rfl
    | some ob => obtain ⟨ty, cs⟩ := ob; cases cs <;> rfl
  have hold : ∀ i ob', (σ.pubAt id (addr id)).own.getD i none = some ob' → ob'.cs.real → i ≠ id ∧ ∃ ob0, σ.own.getD i none = some ob0 ∧ ob' = ⟨ob0.ty, substC id (addr id) ob0.cs⟩ ∧ ob0.cs.real := by
    intro i ob' h hre
    rw [hget] at h
    split at h
    · simp at h
    · rename_i e
      obtain ⟨ob0, h0, rfl⟩ := Option.map_eq_some_iff.1 h
      refine ⟨e, ob0, h0, rfl, ?_⟩
      obtain ⟨ty, cs⟩ := ob0
      cases cs with
      | fixed l => trivial
      | dyn l => trivial
      | list l => exact hre
  have main : ∀ V', View.le V V' → (∀ b cs, V' b = some cs → V b = some cs ∨ (b = addr id ∧ ob.cs.real ∧ cs = l.toArray)) → Conc B w0 (σ.pubAt id (addr id)) V' a w addr := by
    intro V' hle hV'
    refine ⟨by simp [St.pubAt, hc.size], by simp [St.pubAt, hc.osize], fun i hi => ?_, hc.defers, fun i ob' h hre => ?_, fun i ob' h hre => ?_, fun p hp => ?_, fun i ob' h hre => ?_, fun i i' ob1 ob2 h1 h2 hr1 hr2 => ?_, ?_, hc.below, ?_⟩
    · have hi' : i < σ.tm.length := by simpa [St.pubAt] using hi
      have := Rel.subst hlive (hc.rel i hi')
      simpa [St.pubAt, List.getD, hi'] using this
    · obtain ⟨hne, ob0, h0, rfl, hre0⟩ := hold i ob' h hre
      obtain ⟨arr', hw', hb'⟩ := hc.blk i ob0 h0 hre0
      refine ⟨arr', hw', ?_⟩
      obtain ⟨ty, cs⟩ := ob0
      cases cs with
      | dyn l' => exact hb'
      | list l' => exact hb'
      | fixed l' =>
        refine ⟨by simpa using hb'.1, fun j hj => ?_⟩
        have hj' : j < l'.length := by simpa using hj
        have := Rel.subst hlive (hb'.2 j hj')
        simpa [List.getD, hj'] using this
    · obtain ⟨hne, ob0, h0, _, hre0⟩ := hold i ob' h hre
      exact hc.lo i ob0 h0 hre0
    · subst hB; simp at hp
    · obtain ⟨hne, ob0, h0, _, hre0⟩ := hold i ob' h hre
      cases hv : V' (addr i) with
      | none => rfl
      | some cs =>
        rcases hV' _ _ hv with h1 | ⟨h1, h2, _⟩
        · rw [hc.out i ob0 h0 hre0] at h1; simp at h1
        · exact absurd (hc.inj i id ob0 ob h0 hg hre0 h2 h1) hne
    · obtain ⟨_, ob1', h1', _, hr1'⟩ := hold i ob1 h1 hr1
      obtain ⟨_, ob2', h2', _, hr2'⟩ := hold i' ob2 h2 hr2
      exact hc.inj i i' ob1' ob2' h1' h2' hr1' hr2'
    · intro b cs hbc
      rcases hV' _ _ hbc with h1 | ⟨rfl, h2, rfl⟩
      · exact hc.vin b cs h1
      · obtain ⟨arr, hw, hb⟩ := hc.blk id ob hg h2
        have harr : arr = l.toArray := by
          obtain ⟨ty, cs⟩ := ob
          cases cs with
          | dyn l' => simp [cellsOf] at hl; subst hl; exact hb
          | list l' => simp [cellsOf] at hl; subst hl; exact hb
          | fixed l' => exact allVals_arr hl hb
        exact ⟨ob.ty, (0, 0), by rw [hw, harr]⟩
    · intro b cs hbc
      rcases hV' _ _ hbc with h1 | ⟨rfl, h2, rfl⟩
      · exact hc.fresh b cs h1
      · rcases hc.lo id ob hg h2 with h | h
        · exact .inr h
        · subst hB; simp [hA] at h
  have hyes : ob.cs.real → ∃ V', View.le V V' ∧ V' (addr id) = some l.toArray ∧ Conc B w0 (σ.pubAt id (addr id)) V' a w addr := fun hre =>
    ⟨fun i => if i = addr id then some l.toArray else V i, View.set_le (hc.out id ob hg hre), by simp, main _ (View.set_le (hc.out id ob hg hre)) fun b cs hb => by
      by_cases e : b = addr id
      · simp [e] at hb; exact .inr ⟨e, hre, hb.symm⟩
      · simp [e] at hb; exact .inl hb⟩
  by_cases hre : ob.cs.real
  · obtain ⟨V', h1, h2, h3⟩ := hyes hre
    refine ⟨V', h1, ?_, h3⟩
    unfold pubK
    split
    · exact fun _ => h2
    · exact h2
  · refine ⟨V, View.le_refl V, ?_, main V (View.le_refl V) fun b cs hb => .inl hb⟩
    obtain ⟨ty, cs⟩ := ob
    cases cs with
    | list l => exact fun h => absurd h hre
    | _ => exact absurd trivial hre

/-- A loop whose relation carries something of its own. -/
theorem wp_loop_ghost {P : Program} {Q : Exit → Act → World → Prop} {a : Act} {w : World} {c : Code} {α : Type} (I : α → Act → World → Prop) (μ : α → Nat) (x0 : α) (h0 : I x0 a w)
    (round : ∀ x a w, I x a w → c.wp P (Exit.then (fun a' w' => ∃ x', I x' a' w' ∧ μ x' < μ x) Q) a w) : (Code.loop c).wp P Q a w := by
  intro b k cs
  have key : ∀ n x a w, μ x = n → I x a w →
      ∃ e a' w', Q e a' w' ∧ Arrives P (lone (b.at a (.code c :: .inLoop c :: k)) cs w) b k cs e a' w' := by
    intro n
    induction n using Nat.strongRecOn with
    | _ n ih =>
      intro x a w hn hI
      obtain ⟨e, a₁, w₁, hq, harr⟩ := round x a w hI b (.inLoop c :: k) cs
      cases e with
      | normal =>
        obtain ⟨x', hI₁, hlt⟩ := hq
        obtain ⟨e₂, a₂, w₂, hq₂, harr₂⟩ := ih (μ x') (hn ▸ hlt) x' a₁ w₁ rfl hI₁
        exact ⟨e₂, a₂, w₂, hq₂, .of_steps (Steps.trans harr (.one step_inLoop)) harr₂⟩
      | exit id => exact ⟨_, a₁, w₁, hq, .pass (x := .inLoop c) rfl (fun _ _ => .inl (by simp)) harr⟩
      | goto l => exact ⟨_, a₁, w₁, hq, .pass (x := .inLoop c) rfl (fun _ _ => .inl (by simp)) harr⟩
      | ret => exact ⟨_, a₁, w₁, hq, .pass (x := .inLoop c) rfl (fun _ _ => .inl (by simp)) harr⟩
      | panic ch => exact ⟨_, a₁, w₁, hq, .pass (x := .inLoop c) rfl (fun _ _ => .inl (by simp)) harr⟩
      | outgrown => exact ⟨_, a₁, w₁, hq, .pass (x := .inLoop c) rfl (fun _ _ => .inl (by simp)) harr⟩
  obtain ⟨e, a', w', hq, harr⟩ := key _ x0 a w rfl h0
  exact ⟨e, a', w', hq, .of_steps (.one step_loop) harr⟩

/-- A nil slice is a list without cells. -/
theorem Conc.adopt {B w0 σ V a w addr} (hc : Conc B w0 σ V a w addr) {t id : Nat} (ty : TypeId) (ht : σ.tm[t]? = some (.val (.slice none 0 0))) (hid : σ.own[id]? = some none) :
    ∃ addr', Conc B w0 { tm := σ.tm.set t (.lst id 0 0), own := σ.own.set id (some ⟨ty, .list []⟩) } V a w addr' := by
  have hg := hc.gain hid ty [] 0 (.list []) (.inl rfl) (fun h => absurd rfl h)
  have hlt : id < σ.own.length := by
    rcases Nat.lt_or_ge id σ.own.length with h | h
    · exact h
    · rw [List.getElem?_eq_none h] at hid; simp at hid
  have htt : t < σ.tm.length := by
    rcases Nat.lt_or_ge t σ.tm.length with h | h
    · exact h
    · rw [List.getElem?_eq_none h] at ht; simp at ht
  refine ⟨_, ⟨by simpa [St.setOwn] using hg.size, by simpa [St.setOwn] using hg.osize, fun i hi => ?_, hg.defers, hg.blk, hg.lo, hg.lent, hg.out, hg.inj, hg.vin, hg.below, hg.fresh⟩⟩
  have hi' : i < σ.tm.length := by simpa using hi
  have hr := hg.rel i hi'
  by_cases e : t = i
  · subst e
    have h0 : σ.tm.getD t .any = .val (.slice none 0 0) := by simp [List.getD, ht]
    have h1 : (σ.setOwn id (some ⟨ty, .list []⟩)).tm.getD t .any = .val (.slice none 0 0) := h0
    rw [h1] at hr
    have h2 : (σ.tm.set t (SV.lst id 0 0)).getD t .any = .lst id 0 0 := by simp [List.getD, htt]
    rw [h2]
    exact ⟨by simp [List.getD, hlt], by simpa [Rel] using hr⟩
  · have h2 : (σ.tm.set t (SV.lst id 0 0)).getD i .any = σ.tm.getD i .any := by simp [List.getD, List.getElem?_set_ne e]
    rw [h2]; exact hr

theorem Conc.adoptC {B w0 σ V a w addr} (hc : Conc B w0 σ V a w addr) {b j id : Nat} {tb : TypeId} {l : List SV} (ty : TypeId) (hb : σ.own[b]? = some (some ⟨tb, .fixed l⟩)) (hj : l[j]? = some (.val (.slice none 0 0)))
    (hid : σ.own[id]? = some none) :
    ∃ addr', Conc B w0 { tm := σ.tm, own := (σ.own.set id (some ⟨ty, .list []⟩)).set b (some ⟨tb, .fixed (l.set j (.lst id 0 0))⟩) } V a w addr' := by
  have hg := hc.gain hid ty [] 0 (.list []) (.inl rfl) (fun h => absurd rfl h)
  have hne : b ≠ id := by rintro rfl; rw [hb] at hid; simp at hid
  have hlt : id < σ.own.length := by
    rcases Nat.lt_or_ge id σ.own.length with h | h
    · exact h
    · rw [List.getElem?_eq_none h] at hid; simp at hid
  have hbl : b < σ.own.length := by
    rcases Nat.lt_or_ge b σ.own.length with h | h
    · exact h
    · rw [List.getElem?_eq_none h] at hb; simp at hb
  let σ1 : St := σ.setOwn id (some ⟨ty, .list []⟩)
  have hb1 : σ1.own[b]? = some (some ⟨tb, .fixed l⟩) := by simp only [σ1, St.setOwn]; rw [List.getElem?_set_ne (fun e => hne e.symm)]; exact hb
  have hgb := getD_of hb1
  have hk2 : kind (σ1.own.getD id none) = 2 := by simp [σ1, St.setOwn, List.getD, hlt]
  have hget : ∀ i, ((σ.own.set id (some ⟨ty, .list []⟩)).set b (some ⟨tb, .fixed (l.set j (.lst id 0 0))⟩)).getD i none = if i = b then some ⟨tb, .fixed (l.set j (.lst id 0 0))⟩ else σ1.own.getD i none := by
    intro i
    simp only [σ1, St.setOwn, List.getD, List.getElem?_set]
    by_cases e : b = i
    · subst e; simp [hbl]
    · have e' : ¬ i = b := fun x => e x.symm
      simp [e, e']
  have hk : ∀ i, kind (((σ.own.set id (some ⟨ty, .list []⟩)).set b (some ⟨tb, .fixed (l.set j (.lst id 0 0))⟩)).getD i none) = kind (σ1.own.getD i none) := by
    intro i; rw [hget]; split
    · rename_i e; subst e; rw [hgb]; rfl
    · rfl
  have hmono : ∀ i, kind (σ1.own.getD i none) ≠ 0 → kind (((σ.own.set id (some ⟨ty, .list []⟩)).set b (some ⟨tb, .fixed (l.set j (.lst id 0 0))⟩)).getD i none) = kind (σ1.own.getD i none) ∧ (if i = id then 0 else addr i) = (if i = id then 0 else addr i) :=
    fun i _ => ⟨hk i, rfl⟩
  have hold : ∀ i ob, ((σ.own.set id (some ⟨ty, .list []⟩)).set b (some ⟨tb, .fixed (l.set j (.lst id 0 0))⟩)).getD i none = some ob → ob.cs.real → ∃ ob0, σ1.own.getD i none = some ob0 ∧ ob0.cs.real := by
    intro i ob h hre
    rw [hget] at h
    split at h
    · rename_i e; subst e; exact ⟨_, hgb, trivial⟩
    · exact ⟨ob, h, hre⟩
  refine ⟨fun i => if i = id then 0 else addr i, ⟨hg.size, by simpa [σ1, St.setOwn] using hg.osize, fun i hi => Rel.own_mono hmono (hg.rel i hi), hg.defers, fun i ob h hre => ?_, fun i ob h hre => ?_, fun p hp => ⟨(hg.lent p hp).1, by rw [hk]; exact (hg.lent p hp).2⟩,
    fun i ob h hre => ?_, fun i i' ob1 ob2 h1 h2 hr1 hr2 => ?_, hg.vin, hg.below, hg.fresh⟩⟩
  · rw [hget] at h
    split at h
    · rename_i e; subst e; cases h
      obtain ⟨arr, hw, hba⟩ := hg.blk i _ hgb trivial
      refine ⟨arr, hw, by simpa using hba.1, fun q hq => ?_⟩
      have hq' : q < l.length := by simpa using hq
      have hr := hba.2 q hq'
      by_cases e : j = q
      · subst e
        have h1 : l.getD j .any = .val (.slice none 0 0) := by simp [List.getD, hj]
        rw [h1] at hr
        have h2 : (l.set j (SV.lst id 0 0)).getD j .any = .lst id 0 0 := by simp [List.getD, hq']
        rw [h2]
        exact ⟨by rw [hk]; exact hk2, by simpa [Rel] using hr⟩
      · have h2 : (l.set j (SV.lst id 0 0)).getD q .any = l.getD q .any := by simp [List.getD, List.getElem?_set_ne e]
        rw [h2]; exact Rel.own_mono hmono hr
    · obtain ⟨arr, hw, hba⟩ := hg.blk i ob h hre
      exact ⟨arr, hw, BlkAt.own_mono hmono hba⟩
  · obtain ⟨ob0, h0, hr0⟩ := hold i ob h hre; exact hg.lo i ob0 h0 hr0
  · obtain ⟨ob0, h0, hr0⟩ := hold i ob h hre; exact hg.out i ob0 h0 hr0
  · obtain ⟨_, h1', hr1'⟩ := hold i ob1 h1 hr1
    obtain ⟨_, h2', hr2'⟩ := hold i' ob2 h2 hr2
    exact hg.inj i i' _ _ h1' h2' hr1' hr2'

theorem capsL_spec {id : Nat} : ∀ {l : List SV}, capsL id l → ∀ n c, SV.lst id n c ∈ l → c ≠ 0
  | [], _, n, c, h => by simp at h
  | s :: l, h, n, c, hm => by
    rcases List.mem_cons.1 hm with e | hm
    · subst e
      simp only [capsL, Nat.beq_refl] at h
      exact h.1
    · refine capsL_spec (l := l) ?_ n c hm
      cases s with
      | lst i m d =>
        simp only [capsL] at h
        split at h
        · exact h.2
        · exact h
      | _ => exact h
theorem capsO_spec {id : Nat} : ∀ {r : List (Option OB)}, capsO id r → ∀ ty l, some ⟨ty, .fixed l⟩ ∈ r → capsL id l
  | [], _, ty, l, h => by simp at h
  | o :: r, h, ty, l, hm => by
    rcases List.mem_cons.1 hm with e | hm
    · subst e; exact h.1
    · refine capsO_spec (r := r) ?_ ty l hm
      cases o with
      | none => exact h
      | some ob =>
        obtain ⟨ty', cs⟩ := ob
        cases cs with
        | fixed l' => exact h.2
        | dyn l' => exact h
        | list l' => exact h

theorem Conc.solid {B w0 σ V a w addr} (hc : Conc B w0 σ V a w addr) {id : Nat} {ty : TypeId} {l : List Value} (hid : σ.own[id]? = some (some ⟨ty, .list l⟩)) (hl : l ≠ []) (h1 : capsL id σ.tm) (h2 : capsO id σ.own) :
    Conc B w0 (σ.solid id ty l) V a w addr := by
  have hg := getD_of hid
  have hlt : id < σ.own.length := by
    rcases Nat.lt_or_ge id σ.own.length with h | h
    · exact h
    · rw [List.getElem?_eq_none h] at hid; simp at hid
  have hk2 : kind (σ.own.getD id none) = 2 := by rw [hg]; rfl
  have hget : ∀ i, (σ.solid id ty l).own.getD i none = if i = id then some ⟨ty, .dyn l⟩ else (σ.own.getD i none).map fun ob => ⟨ob.ty, solidC id ob.cs⟩ := by
    intro i
    simp only [St.solid, List.getD, List.getElem?_set, List.length_map]
    by_cases e : id = i
    · subst e; simp [hlt]
    · have e' : ¬ i = id := fun h => e h.symm
      simp only [e, e', if_false, List.getElem?_map]
      cases σ.own[i]? <;> simp
  have hkne : ∀ i, i ≠ id → kind ((σ.solid id ty l).own.getD i none) = kind (σ.own.getD i none) := by
    intro i hi; rw [hget, if_neg hi]
    cases σ.own.getD i none with
    | none => rfl
    | some ob => obtain ⟨ty, cs⟩ := ob; cases cs <;> rfl
  have hkid : kind ((σ.solid id ty l).own.getD id none) = 1 := by rw [hget, if_pos rfl]; rfl
  have hrel : ∀ {s : SV} {x : Value}, (∀ n c, s = .lst id n c → c ≠ 0) → Rel addr σ.own s x → Rel addr (σ.solid id ty l).own (solidS id s) x := by
    intro s x hs h
    have hn : ∀ {i}, kind (σ.own.getD i none) = 1 → i ≠ id := by rintro i h rfl; rw [hk2] at h; simp at h
    cases s with
    | val v => exact h
    | lit b => exact h
    | own i off => exact ⟨by rw [hkne i (hn h.1)]; exact h.1, h.2⟩
    | osl i off n c => exact ⟨by rw [hkne i (hn h.1)]; exact h.1, h.2⟩
    | clo f ids => exact ⟨fun i hi => by rw [hkne i (hn (h.1 i hi))]; exact h.1 i hi, h.2⟩
    | lst i n c =>
      simp only [solidS]
      split
      · rename_i e; subst e
        have hc0 := hs n c rfl
        exact ⟨hkid, by rw [h.2, if_neg hc0]⟩
      · rename_i e
        exact ⟨by rw [hkne i e]; exact h.1, h.2⟩
    | tlst i n c r =>
      simp only [solidS]
      split
      · trivial
      · rename_i e
        exact ⟨by rw [hkne i e]; exact h.1, h.2⟩
    | any => trivial
  have hold : ∀ i ob, (σ.solid id ty l).own.getD i none = some ob → ob.cs.real → ∃ ob0, σ.own.getD i none = some ob0 ∧ ob0.cs.real := by
    intro i ob h hre
    rw [hget] at h
    split at h
    · rename_i e; subst e; exact ⟨_, hg, hl⟩
    · obtain ⟨ob0, h0, rfl⟩ := Option.map_eq_some_iff.1 h
      refine ⟨ob0, h0, ?_⟩
      obtain ⟨ty, cs⟩ := ob0
      cases cs with
      | fixed l => trivial
      | dyn l => trivial
      | list l => exact hre
  refine ⟨by simp [St.solid, hc.size], by simp [St.solid, hc.osize], fun i hi => ?_, hc.defers, fun i ob h hre => ?_, fun i ob h hre => ?_, fun p hp => ?_, fun i ob h hre => ?_, fun i i' ob1 ob2 g1 g2 hr1 hr2 => ?_, hc.vin, hc.below, hc.fresh⟩
  · have hi' : i < σ.tm.length := by simpa [St.solid] using hi
    have := hrel (s := σ.tm.getD i .any) (fun n c e => capsL_spec h1 n c (by rw [← e]; simp [List.getD, hi'])) (hc.rel i hi')
    simpa [St.solid, List.getD, hi'] using this
  · have hh := h
    rw [hget] at h
    split at h
    · rename_i e; subst e; cases h
      obtain ⟨arr, hw, hba⟩ := hc.blk i _ hg hl
      exact ⟨arr, hw, hba⟩
    · rename_i e
      obtain ⟨ob0, h0, rfl⟩ := Option.map_eq_some_iff.1 h
      obtain ⟨ty0, cs0⟩ := ob0
      have hre0 : (⟨ty0, cs0⟩ : OB).cs.real := by cases cs0 <;> first | trivial | exact hre
      obtain ⟨arr, hw, hba⟩ := hc.blk i _ h0 hre0
      refine ⟨arr, hw, ?_⟩
      cases cs0 with
      | dyn l' => exact hba
      | list l' => exact hba
      | fixed l' =>
        refine ⟨by simpa using hba.1, fun q hq => ?_⟩
        have hq' : q < l'.length := by simpa using hq
        have hm : some ⟨ty0, .fixed l'⟩ ∈ σ.own := by
          have hil : i < σ.own.length := by
            rcases Nat.lt_or_ge i σ.own.length with h' | h'
            · exact h'
            · simp [List.getD, List.getElem?_eq_none h'] at h0
          have : σ.own[i] = some ⟨ty0, .fixed l'⟩ := by simpa [List.getD, hil] using h0
          rw [← this]; exact List.getElem_mem _
        have := hrel (s := l'.getD q .any) (fun n c e => capsL_spec (capsO_spec h2 ty0 l' hm) n c (by rw [← e]; simp [List.getD, hq'])) (hba.2 q hq')
        simpa [List.getD, hq'] using this
  · obtain ⟨ob0, h0, hr0⟩ := hold i ob h hre; exact hc.lo i ob0 h0 hr0
  · obtain ⟨g1, g2⟩ := hc.lent p hp
    have hne : p.1 ≠ id := by intro h; rw [h, hk2] at g2; simp at g2
    exact ⟨g1, by rw [hkne _ hne]; exact g2⟩
  · obtain ⟨ob0, h0, hr0⟩ := hold i ob h hre; exact hc.out i ob0 h0 hr0
  · obtain ⟨_, h1', hr1'⟩ := hold i ob1 g1 hr1
    obtain ⟨_, h2', hr2'⟩ := hold i' ob2 g2 hr2
    exact hc.inj i i' _ _ h1' h2' hr1' hr2'

section sound
variable {P : Program} {Shp : Shapes} {Bl : List Nat} {B : List (Nat × Nat)} {w0 : Base}

theorem ops_sound {ops : Array Oper} {K : St → View → Prop} {V0 : View} {Q : Exit → Act → World → Prop} (hK : ∀ σ' V' a' w' addr', View.le V0 V' → Conc B w0 σ' V' a' w' addr' → K σ' V' → Q .normal a' w') :
    ∀ (l : List Oper) (ans : List An) (σ : St) (V : View) (a : Act) (w : World) (addr : Nat → Nat), View.le V0 V → l.length = ans.length → Conc B w0 σ V a w addr →
      vcOps P Shp ops (l.zip ans) σ V K → wpList P ops Q l a w
  | [], _, σ, V, a, w, addr, hle, _, hc, h => hK _ _ _ _ _ hle hc (by simpa [vcOps] using h)
  | o :: l, [], _, _, _, _, _, _, hlen, _, _ => by simp at hlen
  | o :: l, an :: ans, σ, V, a, w, addr, hle, hlen, hc, h => by
    simp only [List.zip_cons_cons, vcOps] at h
    have := stepT_sound (N := wpList P ops Q l) (Q := Q) hc (fun σ' V' a' w' addr' hle' hc' hk => ops_sound hK l ans σ' V' a' w' addr' (View.le_trans hle hle') (by simpa using hlen) hc' hk) h
    exact this

theorem vc_sound (hm : P.follows .mixedOrders = true) (hB : B.map (·.1) = Bl) (hA : Bl = [] → w0.A = []) : ∀ (ac : AC) (c : Code) (σ : St) (V : View) (Q : Exit → St → View → Prop), vc P Shp Bl ac c σ V Q →
    ∀ (a : Act) (w : World) (addr : Nat → Nat), Conc B w0 σ V a w addr → c.wp P (PostQ B w0 V Q) a w := by
  intro ac
  induction ac with
  | leaf =>
    intro c σ V Q h a w addr hc
    simp only [vc] at h
    split at h
    · exact wp_skip ⟨σ, V, addr, View.le_refl V, hc, h⟩
    · exact wp_exit ⟨σ, V, addr, View.le_refl V, hc, h⟩
    · exact wp_ret ⟨σ, V, addr, View.le_refl V, hc, h⟩
    · exact h.elim
  | reg ans =>
    intro c σ V Q h a w addr hc
    simp only [vc] at h
    split at h
    · split at h
      · rename_i hlen
        have hlen := Nat.eq_of_beq_eq_true hlen
        refine wp_region_list (ops_sound (V0 := V) (fun σ' V' a' w' addr' hle hc' hk => ⟨σ', V', addr', hle, hc', hk⟩) _ ans σ V a w addr (View.le_refl V) (by simp [hlen]) hc h)
      · exact h.elim
    · exact h.elim
  | draw canon masks =>
    intro c σ V Q h a w addr hc
    simp only [vc] at h
    split at h
    · rename_i id ops
      split at h
      · rename_i hok
        refine wp_region_any hm ?_
        have hw : ({ w with drawn := w.drawn + 1 } : World) = w.drew := rfl
        rw [hw]
        obtain ⟨hcl, hnd, hall, hlt, hpr, hmask, hpw⟩ := drawOk_spec hok
        -- the views grow from V on
        let K : St → View → Prop := fun σ' V' => Q .normal σ' V' ∧ View.le V V'
        have hK : vcOps P Shp ops ((itemsOf ops canon).map (·.2)) σ V K := vcOps_mono hc.vin.fin (fun σ' V' hle _ hq => ⟨hq, hle⟩) h
        refine draw_sound hok (K := K) (fun σ' V' a' w' addr' hc' hk => ⟨σ', V', addr', hk.2, hc', hk.1⟩) ops.size _ (itemsOf ops canon) σ V a w.drew addr hc.drew ?_ ?_ hK
        · have hmapf : (itemsOf ops canon).map (·.1) = canon.map (·.1) := by simp [itemsOf]
          refine ⟨by simp, List.Sublist.refl _, fun i hi => ?_, fun i hi => ?_⟩
          · rw [hmapf]
            have := hall i hi
            constructor
            · intro hh; simp [Array.getD_eq_getD_getElem?, hi] at hh
            · intro hh; exact absurd this hh
          · by_cases hi' : i < ops.size
            · simp [Array.getD_eq_getD_getElem?, hi'] at hi
            · simp [Array.getD_eq_getD_getElem?, hi'] at hi
        · simp [itemsOf, hcl]
      · exact h.elim
    · exact h.elim
  | seq x y ihx ihy =>
    intro c σ V Q h a w addr hc
    simp only [vc] at h
    split at h
    · refine wp_seq (wp_mono (ihx _ _ _ _ h a w addr hc) fun e a' w' hq => ?_)
      obtain ⟨σ', V', addr', hle, hc', hk⟩ := hq
      cases e with
      | normal => exact wp_mono (ihy _ _ _ _ hk a' w' addr' hc') fun e a2 w2 hq2 => hq2.le hle
      | _ => exact ⟨σ', V', addr', hle, hc', hk⟩
    · exact h.elim
  | cut γ α get st I x y ihx ihy =>
    intro c σ V Q h a w addr hc
    simp only [vc] at h
    split at h
    · obtain ⟨h1, h2⟩ := h
      refine wp_seq (wp_mono (ihx _ _ _ _ h1 a w addr hc) fun e a' w' hq => ?_)
      obtain ⟨σ', V', addr', hle, hc', hk⟩ := hq
      cases e with
      | normal =>
        obtain ⟨x1, hf, hi⟩ := hk
        have := h2 x1 V' hle hi
        split at this
        · rename_i hwf
          exact wp_mono (ihy _ _ _ _ this a' w' addr' (hc'.fits hf hB hwf)) fun e a2 w2 hq2 => hq2.le hle
        · exact this.elim
      | _ => exact ⟨σ', V', addr', hle, hc', hk⟩
    · exact h.elim
  | cond x y ihx ihy =>
    intro c σ V Q h a w addr hc
    simp only [vc] at h
    split at h
    · rename_i t cx cy
      have hr := hc.eval t
      split at h
      · rename_i ht; rw [ht] at hr; exact wp_cond_true hr (ihx _ _ _ _ h a w addr hc)
      · rename_i ht; rw [ht] at hr; exact wp_cond_false hr (ihy _ _ _ _ h a w addr hc)
      · rename_i g ht
        rw [ht] at hr
        exact wp_cond_split hr (fun hg => ihx _ _ _ _ (h.1 hg) a w addr hc) (fun hg => ihy _ _ _ _ (h.2 hg) a w addr hc)
      · exact h.elim
    · exact h.elim
  | block x ihx =>
    intro c σ V Q h a w addr hc
    simp only [vc] at h
    split at h
    · rename_i id cx
      refine wp_block (wp_mono (ihx _ _ _ _ h a w addr hc) fun e a' w' hq => ?_)
      obtain ⟨σ', V', addr', hle, hc', hk⟩ := hq
      cases e with
      | exit id' =>
        simp only [Exit.inBlock]
        simp only at hk
        split at hk
        · rename_i hid
          have hid := Nat.eq_of_beq_eq_true hid
          rw [if_pos hid]; exact ⟨σ', V', addr', hle, hc', hk⟩
        · rename_i hid
          rw [if_neg (by rintro rfl; simp at hid)]; exact ⟨σ', V', addr', hle, hc', hk⟩
      | _ => exact ⟨σ', V', addr', hle, hc', hk⟩
    · exact h.elim
  | loop γ α get st I μ x ihx =>
    intro c σ V Q h a w addr hc
    simp only [vc] at h
    split at h
    · rename_i cx
      obtain ⟨⟨x0, hf0, hi0⟩, hround⟩ := h
      have hwf : ∀ x1 V1, V.le V1 → I (get σ) x1 V1 → wfB Bl (st (get σ) x1) = true := by
        intro x1 V1 hle hi
        have := hround x1 V1 hle hi
        split at this
        · rename_i hwf; exact hwf
        · exact this.elim
      refine wp_loop_ghost (α := α × View) (fun x1 a' w' => ∃ addr1, View.le V x1.2 ∧ I (get σ) x1.1 x1.2 ∧ Conc B w0 (st (get σ) x1.1) x1.2 a' w' addr1) (fun x => μ (get σ) x.1 x.2) (x0, V)
        ⟨addr, View.le_refl V, hi0, hc.fits hf0 hB (hwf x0 V (View.le_refl V) hi0)⟩ ?_
      rintro ⟨x1, V1⟩ a1 w1 ⟨addr1, hle1, hi1, hc1⟩
      have hr := hround x1 V1 hle1 hi1
      split at hr
      · refine wp_mono (ihx _ _ _ _ hr a1 w1 addr1 hc1) fun e a2 w2 hq => ?_
        obtain ⟨σ', V', addr', hle', hc', hk⟩ := hq
        cases e with
        | normal =>
          obtain ⟨x2, hf2, hi2, hμ⟩ := hk
          exact ⟨(x2, V'), ⟨addr', View.le_trans hle1 hle', hi2, hc'.fits hf2 hB (hwf x2 V' (View.le_trans hle1 hle') hi2)⟩, hμ⟩
        | _ => exact ⟨σ', V', addr', View.le_trans hle1 hle', hc', hk⟩
      · exact hr.elim
    · exact h.elim
  | pub id x ihx =>
    intro c σ V Q h a w addr hc
    simp only [vc] at h
    split at h
    · rename_i ob hob
      split at h
      · rename_i l hl hnl
        have hBl : Bl = [] := by simpa using hnl
        have hB0 : B = [] := by rw [hBl] at hB; simpa using hB
        obtain ⟨V', hle, hV', hc'⟩ := hc.pub hB0 (hA hBl) hob hl
        exact wp_mono (ihx _ _ _ _ (h _ V' hle hV') a w addr hc') fun e a2 w2 hq2 => hq2.le hle
      · exact h.elim
    · exact h.elim
  | adopt t id ty x ihx =>
    intro c σ V Q h a w addr hc
    simp only [vc] at h
    split at h
    · rename_i ht hid
      obtain ⟨addr', hc'⟩ := hc.adopt ty ht hid
      exact ihx _ _ _ _ h a w addr' hc'
    · exact h.elim
  | adoptC b j id ty x ihx =>
    intro c σ V Q h a w addr hc
    simp only [vc] at h
    split at h
    · rename_i tb l hb hid
      split at h
      · rename_i hj
        obtain ⟨addr', hc'⟩ := hc.adoptC ty hb hj hid
        exact ihx _ _ _ _ h a w addr' hc'
      · exact h.elim
    · exact h.elim
  | solid id x ihx =>
    intro c σ V Q h a w addr hc
    simp only [vc] at h
    split at h
    · rename_i ty l hid
      exact ihx _ _ _ _ h.2 a w addr (hc.solid hid h.1.1 h.1.2.1 h.1.2.2)
    · exact h.elim
end sound

/-- The state at a function's beginning. -/
def st0 (n : Nat) (args : List Value) : St := { tm := args.map .val ++ List.replicate (n - args.length) .any, own := List.replicate (args.length + (n - args.length)) none }

def resVal (P : Program) (σ : St) (rv : ResultVar) (k : Value → Prop) : Prop :=
  match rv with
  | .tmp t => match (σ.tm.getD t .any).asVal with
    | some v => k v
    | none => False
  | .cell p ty => match σ.tm.getD p .any with
    | .own id off => match σ.own.getD id none with
      | some ob => match ob.cs, aggOf P ty, sizeQ P ty with
        | .fixed l, some true, some n => match allVals ((l.drop off).take n), Nat.ble (off + n) l.length with
          | some vs, true => k (.agg vs.toArray)
          | _, _ => False
        | _, _, _ => False
      | none => False
    | _ => False

def retQ (P : Program) (fn : Func) (R : Value → View → Prop) (e : Exit) (σ : St) (V : View) : Prop :=
  match e with
  | .ret | .normal =>
    match fn.results.toList with
    | [] => R (.tuple #[]) V
    | [r1] => resVal P σ r1 fun v => R v V
    | [r1, r2] => resVal P σ r1 fun v1 => resVal P σ r2 fun v2 => R (.tuple #[v1, v2]) V
    | [r1, r2, r3] => resVal P σ r1 fun v1 => resVal P σ r2 fun v2 => resVal P σ r3 fun v3 => R (.tuple #[v1, v2, v3]) V
    | [r1, r2, r3, r4] => resVal P σ r1 fun v1 => resVal P σ r2 fun v2 => resVal P σ r3 fun v3 => resVal P σ r4 fun v4 => R (.tuple #[v1, v2, v3, v4]) V
    | _ => False
  | _ => False

def readRV (tmps : Array Value) : ResultVar → Sem Value
  | .tmp t => pure (tmps.getD t undef)
  | .cell p ty => do loadVar ty (← asAddr (tmps.getD p undef))

theorem results_eq (fn : Func) (tmps : Array Value) : results fn tmps = (do
    let vs ← fn.results.mapM (readRV tmps)
    pure (if h : vs.size = 1 then vs[0] else .tuple vs)) := by
  unfold results
  congr 2

theorem resVal_spec {P : Program} {B w0 σ V a w addr} (hc : Conc B w0 σ V a w addr) {rv : ResultVar} {k : Value → Prop} (h : resVal P σ rv k) :
    ∃ v, k v ∧ (readRV a.tmps rv).run P w = .ok v w := by
  unfold resVal at h
  split at h
  · rename_i t
    split at h
    · rename_i v hv
      have hr := hc.eval (.tmp t)
      simp only [St.ev, Act.eval] at hr
      refine ⟨v, h, ?_⟩
      simp only [readRV, Sem.run_pure]
      rw [hr.asVal hv]
    · exact h.elim
  · rename_i p ty
    have hr := hc.eval (.tmp p)
    simp only [St.ev, Act.eval] at hr
    split at h
    · rename_i id off hp
      rw [hp] at hr
      simp only [Rel] at hr
      split at h
      · rename_i ob hob
        split at h
        · rename_i l n hcs ha hs
          obtain ⟨arr, hw, hba⟩ := hc.blk id ob hob (by rw [hcs]; trivial)
          rw [hcs] at hba
          split at h
          · rename_i vs hvs hle
            have hle := Nat.le_of_ble_eq_true hle
            obtain ⟨hlen, hget⟩ := allVals_spec hvs
            have hn : vs.length = n := by rw [hlen]; simp; omega
            refine ⟨_, h, ?_⟩
            simp only [readRV, hr.2, asAddr, Sem.run_bind, Sem.run_pure, Result.andThen_ok]
            refine run_loadVar_agg ha (by rw [hn]; exact hs) ?_
            intro j v hv
            obtain ⟨s, hs1, hs2⟩ := hget j v hv
            have hj : j < n := by
              rcases Nat.lt_or_ge j vs.length with h | h
              · omega
              · rw [List.getElem?_eq_none h] at hv; simp at hv
            have hs1' : l[off + j]? = some s := by
              rw [List.getElem?_take_of_lt hj, List.getElem?_drop] at hs1; exact hs1
            have hlt : off + j < l.length := by omega
            have hrel := hba.2 (off + j) hlt
            have e1 : l.getD (off + j) .any = s := by simp [List.getD, hs1']
            rw [e1] at hrel
            have := hrel.asVal hs2
            refine cell_own hw ?_
            rw [Array.getElem?_eq_getElem (by rw [hba.1]; exact hlt)]
            rw [← this]
            have h2 : off + j < arr.size := by rw [hba.1]; exact hlt
            simp [Array.getD_eq_getD_getElem?, h2]
          · exact h.elim
        · exact h.elim
      · exact h.elim
    · exact h.elim

theorem retQ_spec {P : Program} {fn : Func} {R : Value → View → Prop} {B w0 σ V a w addr} (hc : Conc B w0 σ V a w addr) {e : Exit} (h : retQ P fn R e σ V) :
    (e = .ret ∨ e = .normal) ∧ ∃ v, (results fn a.tmps).run P w = .ok v w ∧ R v V := by
  have hres : ∀ l, fn.results.toList = l → fn.results = l.toArray := fun l hl => by apply Array.ext'; simpa using hl
  have main : ∀ (hm : (match fn.results.toList with
    | [] => R (.tuple #[]) V
    | [r1] => resVal P σ r1 fun v => R v V
    | [r1, r2] => resVal P σ r1 fun v1 => resVal P σ r2 fun v2 => R (.tuple #[v1, v2]) V
    | [r1, r2, r3] => resVal P σ r1 fun v1 => resVal P σ r2 fun v2 => resVal P σ r3 fun v3 => R (.tuple #[v1, v2, v3]) V
    | [r1, r2, r3, r4] => resVal P σ r1 fun v1 => resVal P σ r2 fun v2 => resVal P σ r3 fun v3 => resVal P σ r4 fun v4 => R (.tuple #[v1, v2, v3, v4]) V
    | _ => False)), ∃ v, (results fn a.tmps).run P w = .ok v w ∧ R v V := by
    intro hm
    split at hm
    · rename_i hl
      exact ⟨_, by simp [results_eq, hres _ hl], hm⟩
    · rename_i r1 hl
      obtain ⟨v, hk, hr⟩ := resVal_spec hc hm
      exact ⟨v, by simp [results_eq, hres _ hl, hr], hk⟩
    · rename_i r1 r2 hl
      obtain ⟨v1, hk1, hr1⟩ := resVal_spec hc hm
      obtain ⟨v2, hk2, hr2⟩ := resVal_spec hc hk1
      exact ⟨_, by simp [results_eq, hres _ hl, hr1, hr2], hk2⟩
    · rename_i r1 r2 r3 hl
      obtain ⟨v1, hk1, hr1⟩ := resVal_spec hc hm
      obtain ⟨v2, hk2, hr2⟩ := resVal_spec hc hk1
      obtain ⟨v3, hk3, hr3⟩ := resVal_spec hc hk2
      exact ⟨_, by simp [results_eq, hres _ hl, hr1, hr2, hr3], hk3⟩
    · rename_i r1 r2 r3 r4 hl
      obtain ⟨v1, hk1, hr1⟩ := resVal_spec hc hm
      obtain ⟨v2, hk2, hr2⟩ := resVal_spec hc hk1
      obtain ⟨v3, hk3, hr3⟩ := resVal_spec hc hk2
      obtain ⟨v4, hk4, hr4⟩ := resVal_spec hc hk3
      exact ⟨_, by simp [results_eq, hres _ hl, hr1, hr2, hr3, hr4], hk4⟩
    · exact hm.elim
  unfold retQ at h
  split at h
  · exact ⟨.inl rfl, main h⟩
  · exact ⟨.inr rfl, main h⟩
  · exact h.elim

theorem calls_of_vc {P : Program} {Shp : Shapes} {f : FuncId} {fn : Func} {c : Code} {args : List Value} {V : View} {R : Value → View → Prop} (hm : P.follows .mixedOrders = true)
    (hf : P.funcs[f]? = some fn) (hb : fn.body = some c) (ac : AC) (h : vc P Shp [] ac c (st0 fn.ntmps args) V (retQ P fn R)) : CallV P f args.toArray V R := by
  intro w hw
  refine calls_of_wp hf hb ?_
  let a0 : Act := { tmps := args.toArray ++ Array.replicate (fn.ntmps - args.toArray.size) undef, defers := [] }
  have hc : Conc [] ⟨w, V, []⟩ (st0 fn.ntmps args) V a0 w (fun _ => 0) := by
    refine ⟨by simp [a0, st0], by simp [st0], fun i hi => ?_, rfl, fun id ob h => ?_, fun id ob h => ?_, fun p hp => by simp at hp, fun id ob h => ?_, fun id id' ob ob' h => ?_, hw, BelowX.refl _ _, View.fresh_refl _ _⟩
    · simp only [st0, List.length_append, List.length_map, List.length_replicate] at hi
      by_cases h1 : i < args.length
      · simp [a0, st0, List.getD, Array.getD_eq_getD_getElem?, List.getElem?_append, h1, Rel, Array.getElem?_append]
      · have : (st0 fn.ntmps args).tm.getD i .any = .any := by
          have h2 : i - args.length < fn.ntmps - args.length := by omega
          simp [st0, List.getD, List.getElem?_append, h1, List.getElem?_replicate, h2]
        rw [this]; trivial
    all_goals
      exfalso
      simp only [st0, List.getD, List.getElem?_replicate] at h
      split at h <;> simp at h
  refine wp_mono (vc_sound (w0 := ⟨w, V, []⟩) hm rfl (fun _ => rfl) ac c _ V _ h a0 w _ hc) fun e a' w' hq => ?_
  obtain ⟨σ', V', addr', hle, hc', hk⟩ := hq
  obtain ⟨he, v, hrun, hR⟩ := retQ_spec hc' hk
  rcases he with rfl | rfl
  · exact ⟨hc'.defers, v, hrun, v, V', rfl, hle, hc'.vin, hc'.fresh, hc'.below.below, hR⟩
  · exact ⟨hc'.defers, v, hrun, v, V', rfl, hle, hc'.vin, hc'.fresh, hc'.below.below, hR⟩

/-- The state at the beginning of a function to whose first parameter a slice is lent. -/
def st0D (n : Nat) (ty : TypeId) (l : List Value) (off len cap : Nat) (args : List Value) : St :=
  { tm := .osl 0 off len cap :: (args.map .val ++ List.replicate (n - (args.length + 1)) .any), own := some ⟨ty, .dyn l⟩ :: List.replicate (args.length + (n - (args.length + 1))) none }

def retQD (P : Program) (fn : Func) (ty : TypeId) (R : Value → List Value → View → Prop) (e : Exit) (σ : St) (V : View) : Prop :=
  match σ.own[(0 : Nat)]? with
  | some (some ⟨ty', .dyn l'⟩) => match Nat.beq ty' ty with
    | true => retQ P fn (fun v V => R v l' V) e σ V
    | false => False
  | _ => False

theorem calls_of_vcD {P : Program} {Shp : Shapes} {f : FuncId} {fn : Func} {c : Code} {args : List Value} {ty : TypeId} {l : List Value} {off len cap : Nat} {V : View} {R : Value → List Value → View → Prop}
    (hm : P.follows .mixedOrders = true) (hf : P.funcs[f]? = some fn) (hb : fn.body = some c) (ac : AC) (h : vc P Shp [0] ac c (st0D fn.ntmps ty l off len cap args) V (retQD P fn ty R)) :
    CallD P f (fun b => .slice (some ⟨b, off, none⟩) len cap :: args) ty l V R := by
  intro w b hw hwb hVb
  refine calls_of_wp hf hb ?_
  let xs : List Value := .slice (some ⟨b, off, none⟩) len cap :: args
  let a0 : Act := { tmps := xs.toArray ++ Array.replicate (fn.ntmps - xs.toArray.size) undef, defers := [] }
  have hown : ∀ id ob, (st0D fn.ntmps ty l off len cap args).own.getD id none = some ob → id = 0 ∧ ob = ⟨ty, .dyn l⟩ := by
    intro id ob h
    cases id with
    | zero => simp [st0D] at h; exact ⟨rfl, h.symm⟩
    | succ id =>
      simp only [st0D, List.getD, List.getElem?_cons_succ, List.getElem?_replicate] at h
      split at h <;> simp at h
  have hblt : b < w.heap.size := by
    rcases Nat.lt_or_ge b w.heap.size with h | h
    · exact h
    · rw [Array.getElem?_eq_none h] at hwb; simp at hwb
  have hc : Conc [(0, b)] ⟨w, V, []⟩ (st0D fn.ntmps ty l off len cap args) V a0 w (fun _ => b) := by
    refine ⟨by simp [a0, xs, st0D]; omega, by simp [st0D], fun i hi => ?_, rfl, fun id ob h _ => ?_, fun id ob h _ => ?_, fun p hp => ?_, fun id ob h _ => ?_, fun id id' ob ob' h h' _ _ _ => ?_, hw, BelowX.refl _ _, View.fresh_refl _ _⟩
    · cases i with
      | zero => simp [a0, xs, st0D, Rel, Array.getElem?_append]
      | succ i =>
        simp only [st0D, List.length_cons, List.length_append, List.length_map, List.length_replicate] at hi
        by_cases h1 : i < args.length
        · simp [a0, xs, st0D, List.getD, Array.getD_eq_getD_getElem?, List.getElem?_append, h1, Rel, Array.getElem?_append]
        · have : (st0D fn.ntmps ty l off len cap args).tm.getD (i + 1) .any = .any := by
            have h2 : i - args.length < fn.ntmps - (args.length + 1) := by omega
            simp [st0D, List.getD, List.getElem?_append, h1, List.getElem?_replicate, h2]
          rw [this]; trivial
    · obtain ⟨rfl, rfl⟩ := hown id ob h; exact ⟨_, hwb, rfl⟩
    · exact .inr (by simp)
    · simp at hp; subst hp; exact ⟨rfl, by simp [st0D]⟩
    · exact hVb
    · rw [(hown _ _ h).1, (hown _ _ h').1]
  refine wp_mono (vc_sound (w0 := ⟨w, V, []⟩) hm rfl (fun _ => rfl) ac c _ V _ h a0 w _ hc) fun e a' w' hq => ?_
  obtain ⟨σ', V', addr', hle, hc', hk⟩ := hq
  unfold retQD at hk
  split at hk
  · rename_i ty' l' hob
    split at hk
    · rename_i hty
      have hty := Nat.eq_of_beq_eq_true hty
      subst hty
      obtain ⟨he, v, hrun, hR⟩ := retQ_spec hc' hk
      have hg := getD_of hob
      obtain ⟨arr, hw', hba⟩ := hc'.blk 0 _ hg trivial
      simp only [BlkAt] at hba
      subst hba
      have haddr := (hc'.lent (0, b) (by simp)).1
      simp only at haddr
      rw [haddr] at hw'
      have hn := hc'.out 0 _ hg trivial
      rw [haddr] at hn
      rcases he with rfl | rfl
      · exact ⟨hc'.defers, v, hrun, v, V', l', rfl, hle, hc'.vin, hc'.fresh, by simpa using hc'.below, hw', hn, hR⟩
      · exact ⟨hc'.defers, v, hrun, v, V', l', rfl, hle, hc'.vin, hc'.fresh, by simpa using hc'.below, hw', hn, hR⟩
    · exact hk.elim
  · exact hk.elim

/-- What a function returns that hands over a slice of its own. -/
def resO (σ : St) (rv : ResultVar) (ty : TypeId) (k : Nat → Nat → List Value → Prop) : Prop :=
  match rv with
  | .tmp t =>
    match σ.tm.getD t .any with
    | .val (.slice none 0 0) => k 0 0 []
    | .lst id n cap => match σ.own.getD id none with
      | some ⟨ty', .list l⟩ => match Nat.beq ty' ty with
        | true => k n cap l
        | false => False
      | _ => False
    | .osl id 0 n cap => match σ.own.getD id none with
      | some ⟨ty', .dyn l⟩ => match Nat.beq ty' ty with
        | true => (cap ≠ 0 ∧ l ≠ []) ∧ k n cap l
        | false => False
      | _ => False
    | _ => False
  | _ => False

def retQO (P : Program) (fn : Func) (ty : TypeId) (R : Nat → Nat → List Value → List Value → View → Prop) (e : Exit) (σ : St) (V : View) : Prop :=
  match e with
  | .ret | .normal =>
    match fn.results.toList with
    | [r1] => resO σ r1 ty fun n cap l => R n cap l [] V
    | [r1, r2] => resO σ r1 ty fun n cap l => resVal P σ r2 fun v2 => R n cap l [v2] V
    | _ => False
  | _ => False

theorem resO_spec {P : Program} {w0 σ V a w addr} (hc : Conc [] w0 σ V a w addr) (hA : w0.A = []) {rv : ResultVar} {ty : TypeId} {k : Nat → Nat → List Value → Prop} (h : resO σ rv ty k) :
    ∃ b n cap l, k n cap l ∧ (readRV a.tmps rv).run P w = .ok (.slice (lstA b cap) n cap) w ∧ (l ≠ [] → w0.w.heap.size ≤ b ∧ w.heap[b]? = some (.cells l.toArray ty (0, 0)) ∧ V b = none) := by
  have hlo : ∀ {x : Nat}, w0.w.heap.size ≤ x ∨ x ∈ ([] : List (Nat × Nat)).map (·.2) ++ w0.A → w0.w.heap.size ≤ x := by
    intro x hx
    rcases hx with h | h
    · exact h
    · rw [hA] at h; simp at h
  unfold resO at h
  split at h
  · rename_i t
    have hr := hc.eval (.tmp t)
    simp only [St.ev, Act.eval] at hr
    split at h
    · rename_i hp
      rw [hp] at hr
      simp only [Rel] at hr
      exact ⟨0, 0, 0, [], h, by simp only [readRV, Sem.run_pure, hr]; rfl, fun h => absurd rfl h⟩
    · rename_i id n cap hp
      rw [hp] at hr
      simp only [Rel] at hr
      split at h
      · rename_i ty' l hob
        split at h
        · rename_i hty
          have hty := Nat.eq_of_beq_eq_true hty
          subst hty
          refine ⟨addr id, n, cap, l, h, by simp only [readRV, Sem.run_pure, hr.2]; rfl, fun hl => ?_⟩
          obtain ⟨arr, hw, hba⟩ := hc.blk id _ hob hl
          simp only [BlkAt] at hba
          subst hba
          exact ⟨hlo (hc.lo id _ hob hl), hw, hc.out id _ hob hl⟩
        · exact h.elim
      · exact h.elim
    · rename_i id n cap hp
      rw [hp] at hr
      simp only [Rel] at hr
      split at h
      · rename_i ty' l hob
        split at h
        · rename_i hty
          have hty := Nat.eq_of_beq_eq_true hty
          subst hty
          obtain ⟨⟨hc0, hl0⟩, h⟩ := h
          refine ⟨addr id, n, cap, l, h, by simp only [readRV, Sem.run_pure, hr.2, lstA, if_neg hc0], fun hl => ?_⟩
          obtain ⟨arr, hw, hba⟩ := hc.blk id _ hob trivial
          simp only [BlkAt] at hba
          subst hba
          exact ⟨hlo (hc.lo id _ hob trivial), hw, hc.out id _ hob trivial⟩
        · exact h.elim
      · exact h.elim
    · exact h.elim
  · exact h.elim

theorem retQO_spec {P : Program} {fn : Func} {ty : TypeId} {R : Nat → Nat → List Value → List Value → View → Prop} {w0 σ V a w addr} (hc : Conc [] w0 σ V a w addr) (hA : w0.A = []) {e : Exit} (h : retQO P fn ty R e σ V) :
    (e = .ret ∨ e = .normal) ∧ ∃ b n cap l rest, (results fn a.tmps).run P w = .ok (ownRes b n cap rest) w ∧ (l ≠ [] → w0.w.heap.size ≤ b ∧ w.heap[b]? = some (.cells l.toArray ty (0, 0)) ∧ V b = none) ∧ R n cap l rest V := by
  have hres : ∀ l, fn.results.toList = l → fn.results = l.toArray := fun l hl => by apply Array.ext'; simpa using hl
  have main : ∀ (hm : (match fn.results.toList with
    | [r1] => resO σ r1 ty fun n cap l => R n cap l [] V
    | [r1, r2] => resO σ r1 ty fun n cap l => resVal P σ r2 fun v2 => R n cap l [v2] V
    | _ => False)), ∃ b n cap l rest, (results fn a.tmps).run P w = .ok (ownRes b n cap rest) w ∧ (l ≠ [] → w0.w.heap.size ≤ b ∧ w.heap[b]? = some (.cells l.toArray ty (0, 0)) ∧ V b = none) ∧ R n cap l rest V := by
    intro hm
    split at hm
    · rename_i r1 hl
      obtain ⟨b, n, cap, l, hk, hr, ho⟩ := resO_spec (P := P) hc hA hm
      exact ⟨b, n, cap, l, [], by simp [results_eq, hres _ hl, hr, ownRes], ho, hk⟩
    · rename_i r1 r2 hl
      obtain ⟨b, n, cap, l, hk, hr, ho⟩ := resO_spec (P := P) hc hA hm
      obtain ⟨v2, hk2, hr2⟩ := resVal_spec hc hk
      exact ⟨b, n, cap, l, [v2], by simp [results_eq, hres _ hl, hr, hr2, ownRes], ho, hk2⟩
    · exact hm.elim
  unfold retQO at h
  split at h
  · exact ⟨.inl rfl, main h⟩
  · exact ⟨.inr rfl, main h⟩
  · exact h.elim

theorem Conc.start {f : Nat} {args : List Value} {V : View} {w : World} (hw : V.In w) : Conc [] ⟨w, V, []⟩ (st0 f args) V { tmps := args.toArray ++ Array.replicate (f - args.toArray.size) undef, defers := [] } w (fun _ => 0) := by
  refine ⟨by simp [st0], by simp [st0], fun i hi => ?_, rfl, fun id ob h => ?_, fun id ob h => ?_, fun p hp => by simp at hp, fun id ob h => ?_, fun id id' ob ob' h => ?_, hw, BelowX.refl _ _, View.fresh_refl _ _⟩
  · simp only [st0, List.length_append, List.length_map, List.length_replicate] at hi
    by_cases h1 : i < args.length
    · simp [st0, List.getD, Array.getD_eq_getD_getElem?, List.getElem?_append, h1, Rel, Array.getElem?_append]
    · have : (st0 f args).tm.getD i .any = .any := by
        have h2 : i - args.length < f - args.length := by omega
        simp [st0, List.getD, List.getElem?_append, h1, List.getElem?_replicate, h2]
      rw [this]; trivial
  all_goals
    exfalso
    simp only [st0, List.getD, List.getElem?_replicate] at h
    split at h <;> simp at h

theorem calls_of_vcO {P : Program} {Shp : Shapes} {f : FuncId} {fn : Func} {c : Code} {args : List Value} {ty : TypeId} {V : View} {R : Nat → Nat → List Value → List Value → View → Prop} (hm : P.follows .mixedOrders = true)
    (hf : P.funcs[f]? = some fn) (hb : fn.body = some c) (ac : AC) (h : vc P Shp [] ac c (st0 fn.ntmps args) V (retQO P fn ty R)) : CallO P f args.toArray ty V R := by
  intro w hw
  refine calls_of_wp hf hb ?_
  refine wp_mono (vc_sound (w0 := ⟨w, V, []⟩) hm rfl (fun _ => rfl) ac c _ V _ h _ w _ (Conc.start hw)) fun e a' w' hq => ?_
  obtain ⟨σ', V', addr', hle, hc', hk⟩ := hq
  obtain ⟨he, b, n, cap, l, rest, hrun, ho, hR⟩ := retQO_spec hc' rfl hk
  rcases he with rfl | rfl
  · exact ⟨hc'.defers, _, hrun, b, n, cap, l, rest, V', rfl, hle, hc'.vin, hc'.fresh, hc'.below.below, ho, hR⟩
  · exact ⟨hc'.defers, _, hrun, b, n, cap, l, rest, V', rfl, hle, hc'.vin, hc'.fresh, hc'.below.below, ho, hR⟩

end Go.Vc

namespace Go.Vc
open Go Go.RowKit

structure Sl where
  a : Option Addr
  len : Nat
  cap : Nat
def Sl.v (s : Sl) : Value := .slice s.a s.len s.cap
structure CxV where
  re : Nat
  im : Nat
def CxV.val (x : CxV) : Value := .complex .f64 x.re x.im
structure WhV where
  neg : Bool
  mag : Sl
def WhV.val (x : WhV) : Value := .agg #[.bool x.neg, x.mag.v]
structure NumV where
  re : WhV
  im : WhV
  under : Sl
def NumV.val (x : NumV) : Value := .agg #[.bool x.re.neg, x.re.mag.v, .bool x.im.neg, x.im.mag.v, x.under.v]
structure BdV where
  inf : Int
  x : NumV
def BdV.val (b : BdV) : Value := .agg #[.int .i64 b.inf, .bool b.x.re.neg, b.x.re.mag.v, .bool b.x.im.neg, b.x.im.mag.v, b.x.under.v]
structure SetV where
  lo : BdV
  hi : BdV
def SetV.val (s : SetV) : Value := .agg #[.int .i64 s.lo.inf, .bool s.lo.x.re.neg, s.lo.x.re.mag.v, .bool s.lo.x.im.neg, s.lo.x.im.mag.v, s.lo.x.under.v,
  .int .i64 s.hi.inf, .bool s.hi.x.re.neg, s.hi.x.re.mag.v, .bool s.hi.x.im.neg, s.hi.x.im.mag.v, s.hi.x.under.v]
structure SpV where
  lo : Nat
  hi : Nat
def SpV.val (s : SpV) : Value := .agg #[.float .f64 s.lo, .float .f64 s.hi]
structure BoxV where
  re : SpV
  im : SpV
def BoxV.val (b : BoxV) : Value := .agg #[.float .f64 b.re.lo, .float .f64 b.re.hi, .float .f64 b.im.lo, .float .f64 b.im.hi]
structure RatV where
  re : Int
  im : Int
  den : Int
def RatV.val (r : RatV) : Value := .agg #[.int .i64 r.re, .int .i64 r.im, .int .i64 r.den]
structure EndsV where
  lo : Int
  hi : Int
def EndsV.val (x : EndsV) : Value := .agg #[.int .u64 x.lo, .int .u64 x.hi]
structure SidesV where
  re : EndsV
  im : EndsV
def SidesV.val (x : SidesV) : Value := .agg #[.int .u64 x.re.lo, .int .u64 x.re.hi, .int .u64 x.im.lo, .int .u64 x.im.hi]
structure PlaceV where
  re : Int
  im : Int
def PlaceV.val (x : PlaceV) : Value := .agg #[.int .u8 x.re, .int .u8 x.im]
structure FormV where
  size : Int
  low : Int
  top : Int
def FormV.val (x : FormV) : Value := .agg #[.int .i64 x.size, .int .i64 x.low, .int .i64 x.top]
structure ArcV where
  from_ : RatV
  to_ : RatV
  by_ : RatV
  whole : Int
def ArcV.val (x : ArcV) : Value := .agg #[.int .i64 x.from_.re, .int .i64 x.from_.im, .int .i64 x.from_.den, .int .i64 x.to_.re, .int .i64 x.to_.im, .int .i64 x.to_.den,
  .int .i64 x.by_.re, .int .i64 x.by_.im, .int .i64 x.by_.den, .int .i8 x.whole]

structure GateV where
  from_ : Int
  count : Int
def GateV.val (x : GateV) : Value := .agg #[.int .i64 x.from_, .int .i64 x.count]
structure GridV where
  rows : Sl
def GridV.val (x : GridV) : Value := .agg #[x.rows.v]

end Go.Vc

namespace Go.Vc
open Go Go.ChangeShapes Go.RowKit

/-- A call whose answer is known whatever the world. -/
theorem CallV.plain {P : Program} {f : FuncId} {args : Array Value} {r : Value} (h : CallV P f args (fun _ => none) fun v _ => v = r) (w : World) :
    Calls P f args w fun e w' => e = .returned r ∧ Below w.heap.size w w' :=
  (h w (fun b cs hb => by simp at hb)).mono fun _ _ ⟨_, _, he, _, _, _, hb, hr⟩ => ⟨by rw [he, hr], hb⟩

end Go.Vc

set_option maxRecDepth 100000
namespace Go.Proofs.Ytcapadojlaojkaa
open Go Go.Vc Go.Proofs

def Shp : Shapes := fun t =>
  if t = 2 then ⟨Int, .int .i64⟩ else
  if t = 3 then ⟨Int, .int .i64⟩ else
  if t = 4 then ⟨Bool, .bool⟩ else
  if t = 5 then ⟨Int, .int .u8⟩ else
  if t = 6 then ⟨Int, .int .u8⟩ else
  if t = 9 then ⟨ByteArray, .string⟩ else
  if t = 10 then ⟨ByteArray, .string⟩ else
  if t = 11 then ⟨ByteArray, .string⟩ else
  if t = 12 then ⟨Int, .int .u64⟩ else
  if t = 15 then ⟨Option Addr, .pointer⟩ else
  if t = 16 then ⟨Option Addr, .pointer⟩ else
  if t = 17 then ⟨Option Addr, .pointer⟩ else
  if t = 21 then ⟨Int, .int .i32⟩ else
  if t = 22 then ⟨Int, .int .u64⟩ else
  if t = 24 then ⟨Nat, .float .f64⟩ else
  if t = 27 then ⟨SpV, SpV.val⟩ else
  if t = 28 then ⟨Int, .int .i64⟩ else
  if t = 32 then ⟨SpV, SpV.val⟩ else
  if t = 38 then ⟨EndsV, EndsV.val⟩ else
  if t = 41 then ⟨Int, .int .i64⟩ else
  if t = 47 then ⟨Sl, Sl.v⟩ else
  if t = 50 then ⟨Sl, Sl.v⟩ else
  if t = 57 then ⟨Sl, Sl.v⟩ else
  if t = 59 then ⟨RatV, RatV.val⟩ else
  if t = 62 then ⟨Sl, Sl.v⟩ else
  if t = 63 then ⟨Sl, Sl.v⟩ else
  if t = 65 then ⟨WhV, WhV.val⟩ else
  if t = 67 then ⟨NumV, NumV.val⟩ else
  if t = 75 then ⟨WhV, WhV.val⟩ else
  if t = 77 then ⟨NumV, NumV.val⟩ else
  if t = 91 then ⟨BoxV, BoxV.val⟩ else
  if t = 94 then ⟨CxV, CxV.val⟩ else
  if t = 116 then ⟨GateV, GateV.val⟩ else
  if t = 127 then ⟨BdV, BdV.val⟩ else
  if t = 129 then ⟨SetV, SetV.val⟩ else
  if t = 142 then ⟨Int, .int .u32⟩ else
  if t = 153 then ⟨Sl, Sl.v⟩ else
  if t = 172 then ⟨Int, .int .u64⟩ else
  if t = 183 then ⟨FormV, FormV.val⟩ else
  if t = 197 then ⟨Sl, Sl.v⟩ else
  if t = 211 then ⟨Option Addr, .pointer⟩ else
  if t = 217 then ⟨Int, .int .u8⟩ else
  if t = 218 then ⟨Int, .int .u8⟩ else
  if t = 220 then ⟨Option Addr, .pointer⟩ else
  if t = 221 then ⟨Int, .int .i32⟩ else
  if t = 222 then ⟨Int, .int .i32⟩ else
  if t = 230 then ⟨BdV, BdV.val⟩ else
  if t = 233 then ⟨Sl, Sl.v⟩ else
  ⟨Value, fun v => v⟩

abbrev n_waveportlaw07_TransformShifts : FuncId := 6
abbrev n_transform_Exact : FuncId := 18
abbrev n_waveportlaw07_answers : FuncId := 22
abbrev n_waveportlaw07_awake : FuncId := 23
abbrev n_waveportlaw07_repeated : FuncId := 24
abbrev n_transform_Shift_num_Num_ : FuncId := 25
abbrev n_law1_List : FuncId := 26
abbrev n_waveportref07_Shift : FuncId := 27
abbrev n_waveportlaw07_refList : FuncId := 28
abbrev n_transform_Extend_num_Num_ : FuncId := 29
abbrev n_law1_Of : FuncId := 30
abbrev n_waveportref07_Extend : FuncId := 31
abbrev n_ref1_Of : FuncId := 32
abbrev n_transform_Zero_num_Num_ : FuncId := 33
abbrev n_waveportref07_Zero : FuncId := 34
abbrev n_law1_Is : FuncId := 35
abbrev n_transform_length : FuncId := 58
abbrev n_num_New : FuncId := 59
abbrev n_num_Int : FuncId := 60
abbrev n_Num_Neg : FuncId := 61
abbrev n_waveportref07_Length : FuncId := 62
abbrev n_ref1_New : FuncId := 63
abbrev n_ref1_Whole : FuncId := 64
abbrev n_ref1_Mul : FuncId := 65
abbrev n_Num_Sub : FuncId := 66
abbrev n_Num_Mul : FuncId := 67
abbrev n_ref1_Neg : FuncId := 69
abbrev n_ref1_Sub : FuncId := 70
abbrev n_law1_AreAll : FuncId := 71
abbrev n_transform_Fast_num_Num_ : FuncId := 72
abbrev n_transform_Rest : FuncId := 73
abbrev n_Num_Text : FuncId := 74
abbrev n_waveportlaw07_small : FuncId := 75
abbrev n_waveportref07_pair : FuncId := 76
abbrev n_waveportref07_Moved : FuncId := 77
abbrev n_transform_of_num_Num_ : FuncId := 78
abbrev n_ref1_Conj : FuncId := 79
abbrev n_ref1_Add : FuncId := 80
abbrev n_ref1_Text : FuncId := 81
abbrev n_num_of64 : FuncId := 92
abbrev n_whole_minus : FuncId := 93
abbrev n_num_over : FuncId := 94
abbrev n_ref1_IntOf : FuncId := 95
abbrev n_ref1_IntNeg : FuncId := 96
abbrev n_ref1_Make : FuncId := 97
abbrev n_ref1_IntSub : FuncId := 98
abbrev n_ref1_IntMul : FuncId := 99
abbrev n_ref1_IntAdd : FuncId := 100
abbrev n_ref1_NatMul : FuncId := 101
abbrev n_Num_Add : FuncId := 102
abbrev n_whole_times : FuncId := 103
abbrev n_whole_plus : FuncId := 104
abbrev n_Num_den : FuncId := 105
abbrev n_nat_mul : FuncId := 106
abbrev n_transform_fits_num_Num_ : FuncId := 107
abbrev n_transform_stage_num_Num_ : FuncId := 108
abbrev n_transform_valid : FuncId := 109
abbrev n_Num_Real : FuncId := 110
abbrev n_num_part : FuncId := 111
abbrev n_ref1_half : FuncId := 112
abbrev n_num_natOf : FuncId := 130
abbrev n_num_wholeOf : FuncId := 131
abbrev n_nat_gcd : FuncId := 132
abbrev n_nat_one : FuncId := 133
abbrev n_nat_div : FuncId := 134
abbrev n_ref1_NatOf : FuncId := 135
abbrev n_ref1_signed : FuncId := 136
abbrev n_ref1_NatGcd : FuncId := 137
abbrev n_ref1_NatDiv : FuncId := 138
abbrev n_ref1_NatAdd : FuncId := 139
abbrev n_ref1_NatCmp : FuncId := 140
abbrev n_ref1_NatSub : FuncId := 141
abbrev n_ref1_trim : FuncId := 142
abbrev n_whole_scaled : FuncId := 143
abbrev n_nat_add : FuncId := 144
abbrev n_nat_cmp : FuncId := 145
abbrev n_nat_sub : FuncId := 146
abbrev n_num_trim : FuncId := 147
abbrev n_transform_every_num_Num_ : FuncId := 148
abbrev n_nat_digits : FuncId := 149
abbrev n_ref1_NatText : FuncId := 150
abbrev n_nat_short : FuncId := 158
abbrev n_bits_LeadingZeros32 : FuncId := 159
abbrev n_nat_shl : FuncId := 160
abbrev n_num_take : FuncId := 161
abbrev n_nat_shr : FuncId := 162
abbrev n_ref1_natDigit : FuncId := 163
abbrev n_ref1_NatBits : FuncId := 164
abbrev n_ref1_NatShl : FuncId := 165
abbrev n_ref1_NatShr : FuncId := 166
abbrev n_bits_Add32 : FuncId := 167
abbrev n_bits_Sub32 : FuncId := 168
abbrev n_slices_Reverse___byte_byte_ : FuncId := 169
abbrev n_bits_Div32 : FuncId := 175
abbrev n_bits_Len32 : FuncId := 176
abbrev n_Num_Conj : FuncId := 231
abbrev n_Num_Of : FuncId := 232
abbrev T_u8 : TypeId := 5
abbrev T_u32 : TypeId := 142
abbrev TN_num_Num : TypeId := 67
abbrev TN_api_Gate : TypeId := 116
theorem hmixed : Try.prog.follows .mixedOrders = true := by kernel_rfl

end Go.Proofs.Ytcapadojlaojkaa

set_option maxRecDepth 100000
set_option maxHeartbeats 4000000
namespace Go.Proofs.Ytcapadojlaojkaa
open Go Go.Vc Go.Proofs

structure L_num_trim_0 where
  t3 : Int
/-- waveport/num.trim -/
theorem num_trim_vc (p0 : Sl) (V : View) (R : Value → View → Prop) (I_num_trim_0 : Unit → L_num_trim_0 → View → Prop) (mu_num_trim_0 : Unit → L_num_trim_0 → View → Nat)
  (h :
    I_num_trim_0 () (L_num_trim_0.mk (p0.len : Int)) V ∧
    (∀ (x2 : L_num_trim_0) (V1 : View), View.le V V1 → I_num_trim_0 () x2 V1 →
      ((decide ((x2.t3 : Int) > 0)) = true →
      ((0 : Int) ≤ (IntKind.i64.wrap (x2.t3 - 1)) ∧ ((IntKind.i64.wrap (x2.t3 - 1)) : Int) < (p0.len : Nat) ∧ Option.isSome p0.a = true) ∧
      ∃ x3 : Int, View.load V1 (Option.map (fun q => Addr.add q (Int.toNat (IntKind.i64.wrap (x2.t3 - 1)) * 1)) p0.a) = some (.int .u32 x3) ∧
      (((x3 : Int) == 0) = true →
        I_num_trim_0 () (L_num_trim_0.mk (IntKind.i64.wrap (x2.t3 - 1))) V1 ∧ mu_num_trim_0 () (L_num_trim_0.mk (IntKind.i64.wrap (x2.t3 - 1))) V1 < mu_num_trim_0 () x2 V1) ∧
      (((x3 : Int) == 0) = false →
        ((0 : Int) ≤ 0 ∧ (0 : Int) ≤ x2.t3 ∧ (x2.t3 : Int) ≤ x2.t3 ∧ (x2.t3 : Int) ≤ (p0.cap : Nat)) ∧
    R ((Sl.mk (if Int.toNat x2.t3 = Int.toNat 0 then p0.a else Option.map (fun q => Addr.add q (Int.toNat 0 * 1)) p0.a) (Int.toNat x2.t3 - Int.toNat 0) (Int.toNat x2.t3 - Int.toNat 0)).v) V1)) ∧
      ((decide ((x2.t3 : Int) > 0)) = false →
      (false = true →
        I_num_trim_0 () (L_num_trim_0.mk (IntKind.i64.wrap (x2.t3 - 1))) V1 ∧ mu_num_trim_0 () (L_num_trim_0.mk (IntKind.i64.wrap (x2.t3 - 1))) V1 < mu_num_trim_0 () x2 V1) ∧
      (false = false →
        ((0 : Int) ≤ 0 ∧ (0 : Int) ≤ x2.t3 ∧ (x2.t3 : Int) ≤ x2.t3 ∧ (x2.t3 : Int) ≤ (p0.cap : Nat)) ∧
    R ((Sl.mk (if Int.toNat x2.t3 = Int.toNat 0 then p0.a else Option.map (fun q => Addr.add q (Int.toNat 0 * 1)) p0.a) (Int.toNat x2.t3 - Int.toNat 0) (Int.toNat x2.t3 - Int.toNat 0)).v) V1)))) :
  CallV Try.prog 147 #[p0.v] V R :=
  calls_of_vc (Shp := Shp) hmixed Try.func147 (c := Try.f147.body.getD .skip) (args := [p0.v]) (by kernel_rfl)
    (.seq (.reg [⟨2, 2, false⟩]) (.seq (.reg [⟨4, 2, false⟩, ⟨5, 0, false⟩, ⟨3, 2, false⟩]) (.seq (.block (.loop Unit L_num_trim_0 (fun _ => ()) (fun c x => { tm := spT 22 0 [(0, .val (p0.v)), (3, .val (.int .i64 x.t3))], own := spO 22 0 [] }) I_num_trim_0 mu_num_trim_0 (.seq (.seq (.reg [⟨6, 2, false⟩, ⟨7, 0, false⟩, ⟨8, 2, true⟩, ⟨9, 2, false⟩, ⟨10, 2, false⟩, ⟨11, 0, false⟩, ⟨12, 7, false⟩, ⟨13, 5, false⟩, ⟨14, 0, false⟩, ⟨15, 2, false⟩]) (.cond .leaf .leaf)) (.block (.reg [⟨16, 2, false⟩, ⟨17, 0, false⟩, ⟨3, 2, false⟩]))))) (.seq (.reg [⟨18, 2, false⟩, ⟨19, 2, false⟩, ⟨20, 2, false⟩, ⟨21, 12, false⟩, ⟨2, 2, false⟩]) .leaf))))
    (Eq.mpr (by kernel_rfl) (show (∃ x1 : L_num_trim_0, ((SV.val (p0.v) = SV.val (p0.v) ∧ SV.val (.int .i64 (p0.len : Int)) = SV.val (.int .i64 x1.t3) ∧ True) ∧ (True)) ∧ I_num_trim_0 () x1 V) ∧
    (∀ (x2 : L_num_trim_0) (V1 : View), View.le V V1 → I_num_trim_0 () x2 V1 →
      ((decide ((x2.t3 : Int) > 0)) = true →
      ((0 : Int) ≤ (IntKind.i64.wrap (x2.t3 - 1)) ∧ ((IntKind.i64.wrap (x2.t3 - 1)) : Int) < (p0.len : Nat) ∧ Option.isSome p0.a = true) ∧
      ∃ x3 : Int, View.load V1 (Option.map (fun q => Addr.add q (Int.toNat (IntKind.i64.wrap (x2.t3 - 1)) * 1)) p0.a) = some (.int .u32 x3) ∧
      (((x3 : Int) == 0) = true →
        ∃ x4 : L_num_trim_0, ((SV.val (p0.v) = SV.val (p0.v) ∧ SV.val (.int .i64 (IntKind.i64.wrap (x2.t3 - 1))) = SV.val (.int .i64 x4.t3) ∧ True) ∧ (True)) ∧ I_num_trim_0 () x4 V1 ∧ mu_num_trim_0 () x4 V1 < mu_num_trim_0 () x2 V1) ∧
      (((x3 : Int) == 0) = false →
        ((0 : Int) ≤ 0 ∧ (0 : Int) ≤ x2.t3 ∧ (x2.t3 : Int) ≤ x2.t3 ∧ (x2.t3 : Int) ≤ (p0.cap : Nat)) ∧
    R ((Sl.mk (if Int.toNat x2.t3 = Int.toNat 0 then p0.a else Option.map (fun q => Addr.add q (Int.toNat 0 * 1)) p0.a) (Int.toNat x2.t3 - Int.toNat 0) (Int.toNat x2.t3 - Int.toNat 0)).v) V1)) ∧
      ((decide ((x2.t3 : Int) > 0)) = false →
      (false = true →
        ∃ x5 : L_num_trim_0, ((SV.val (p0.v) = SV.val (p0.v) ∧ SV.val (.int .i64 (IntKind.i64.wrap (x2.t3 - 1))) = SV.val (.int .i64 x5.t3) ∧ True) ∧ (True)) ∧ I_num_trim_0 () x5 V1 ∧ mu_num_trim_0 () x5 V1 < mu_num_trim_0 () x2 V1) ∧
      (false = false →
        ((0 : Int) ≤ 0 ∧ (0 : Int) ≤ x2.t3 ∧ (x2.t3 : Int) ≤ x2.t3 ∧ (x2.t3 : Int) ≤ (p0.cap : Nat)) ∧
    R ((Sl.mk (if Int.toNat x2.t3 = Int.toNat 0 then p0.a else Option.map (fun q => Addr.add q (Int.toNat 0 * 1)) p0.a) (Int.toNat x2.t3 - Int.toNat 0) (Int.toNat x2.t3 - Int.toNat 0)).v) V1))) from ⟨⟨(L_num_trim_0.mk (p0.len : Int)), ⟨⟨rfl, rfl, trivial⟩, trivial⟩, h.1⟩, fun x2 V1 h6 h7 => ⟨fun h5 => ⟨((h.2 x2 V1 h6 h7).1 h5).1, (match ((h.2 x2 V1 h6 h7).1 h5).2 with | ⟨x3, h3, h2⟩ => ⟨x3, h3, ⟨fun h1 => ⟨(L_num_trim_0.mk (IntKind.i64.wrap (x2.t3 - 1))), ⟨⟨rfl, rfl, trivial⟩, trivial⟩, (h2.1 h1).1, (h2.1 h1).2⟩, fun h1 => ⟨(h2.2 h1).1, (h2.2 h1).2⟩⟩⟩)⟩, fun h5 => ⟨fun h4 => ⟨(L_num_trim_0.mk (IntKind.i64.wrap (x2.t3 - 1))), ⟨⟨rfl, rfl, trivial⟩, trivial⟩, (((h.2 x2 V1 h6 h7).2 h5).1 h4).1, (((h.2 x2 V1 h6 h7).2 h5).1 h4).2⟩, fun h4 => ⟨(((h.2 x2 V1 h6 h7).2 h5).2 h4).1, (((h.2 x2 V1 h6 h7).2 h5).2 h4).2⟩⟩⟩⟩))

/-- waveport/num.natOf -/
theorem num_natOf_vc (p0 : Int) (V : View) (R : Value → View → Prop) 
  (h :
    ∀ (b1 : Nat) (V1 : View), View.le V V1 → View.Fin V1 → V1 b1 = some #[.int .u32 (IntKind.u32.wrap p0), .int .u32 (IntKind.u32.wrap (Int.fdiv p0 (2 ^ (min (Int.toNat 32) (IntKind.u64.bits)))))] →
    CallV Try.prog 147 #[(Sl.mk (some (Addr.mk b1 0 none)) 2 2).v] V1 fun v V2 => ∃ r1 : Sl, v = r1.v ∧ -- num.trim
    R (r1.v) V2) :
  CallV Try.prog 130 #[.int .u64 p0] V R :=
  calls_of_vc (Shp := Shp) hmixed Try.func130 (c := Try.f130.body.getD .skip) (args := [.int .u64 p0]) (by kernel_rfl)
    (.seq (.reg [⟨2, 2, false⟩]) (.seq (.reg [⟨3, 2, false⟩, ⟨4, 0, false⟩, ⟨5, 2, false⟩, ⟨6, 0, false⟩, ⟨7, 0, false⟩, ⟨8, 11, false⟩, ⟨9, 10, false⟩, ⟨2, 2, false⟩]) .leaf))
    (Eq.mpr (by kernel_rfl) h)

/-- (waveport/num.nat).one -/
theorem nat_one_vc (p0 : Sl) (V : View) (R : Value → View → Prop) 
  (h :
    ((((p0.len : Int) : Int) == 1) = true →
    ((0 : Int) ≤ 0 ∧ (0 : Int) < (p0.len : Nat) ∧ Option.isSome p0.a = true) ∧
    ∃ x1 : Int, View.load V (Option.map (fun q => Addr.add q (Int.toNat 0 * 1)) p0.a) = some (.int .u32 x1) ∧
    R (.bool ((x1 : Int) == 1)) V) ∧
    ((((p0.len : Int) : Int) == 1) = false →
    R (.bool false) V)) :
  CallV Try.prog 133 #[p0.v] V R :=
  calls_of_vc (Shp := Shp) hmixed Try.func133 (c := Try.f133.body.getD .skip) (args := [p0.v]) (by kernel_rfl)
    (.seq (.reg [⟨2, 2, false⟩]) (.seq (.reg [⟨3, 2, false⟩, ⟨4, 0, false⟩, ⟨5, 0, false⟩, ⟨6, 2, true⟩, ⟨7, 2, false⟩, ⟨8, 7, false⟩, ⟨9, 5, false⟩, ⟨10, 0, false⟩, ⟨11, 2, false⟩, ⟨2, 2, false⟩]) .leaf))
    (Eq.mpr (by kernel_rfl) h)

structure L_nat_cmp_0 where
  t5 : Int
/-- (waveport/num.nat).cmp -/
theorem nat_cmp_vc (p0 : Sl) (p1 : Sl) (V : View) (R : Value → View → Prop) (I_nat_cmp_0 : Unit → L_nat_cmp_0 → View → Prop) (mu_nat_cmp_0 : Unit → L_nat_cmp_0 → View → Nat)
  (h :
    ((((p0.len : Int) : Int) != (p1.len : Int)) = true →
      ((decide (((p0.len : Int) : Int) < (p1.len : Int))) = true →
        R (.int .i64 (-1)) V) ∧
      ((decide (((p0.len : Int) : Int) < (p1.len : Int))) = false →
        R (.int .i64 1) V)) ∧
    ((((p0.len : Int) : Int) != (p1.len : Int)) = false →
      I_nat_cmp_0 () (L_nat_cmp_0.mk (IntKind.i64.wrap ((p0.len : Int) - 1))) V ∧
    (∀ (x2 : L_nat_cmp_0) (V1 : View), View.le V V1 → I_nat_cmp_0 () x2 V1 →
      ((decide ((x2.t5 : Int) ≥ 0)) = true →
        ((0 : Int) ≤ x2.t5 ∧ (x2.t5 : Int) < (p0.len : Nat) ∧ Option.isSome p0.a = true) ∧
      ∃ x3 : Int, View.load V1 (Option.map (fun q => Addr.add q (Int.toNat x2.t5 * 1)) p0.a) = some (.int .u32 x3) ∧
      ((0 : Int) ≤ x2.t5 ∧ (x2.t5 : Int) < (p1.len : Nat) ∧ Option.isSome p1.a = true) ∧
      ∃ x4 : Int, View.load V1 (Option.map (fun q => Addr.add q (Int.toNat x2.t5 * 1)) p1.a) = some (.int .u32 x4) ∧
      ((decide ((x3 : Int) < x4)) = true →
        R (.int .i64 (-1)) V1) ∧
      ((decide ((x3 : Int) < x4)) = false →
        ((0 : Int) ≤ x2.t5 ∧ (x2.t5 : Int) < (p0.len : Nat) ∧ Option.isSome p0.a = true) ∧
      ∃ x5 : Int, View.load V1 (Option.map (fun q => Addr.add q (Int.toNat x2.t5 * 1)) p0.a) = some (.int .u32 x5) ∧
      ((0 : Int) ≤ x2.t5 ∧ (x2.t5 : Int) < (p1.len : Nat) ∧ Option.isSome p1.a = true) ∧
      ∃ x6 : Int, View.load V1 (Option.map (fun q => Addr.add q (Int.toNat x2.t5 * 1)) p1.a) = some (.int .u32 x6) ∧
      ((decide ((x5 : Int) > x6)) = true →
        R (.int .i64 1) V1) ∧
      ((decide ((x5 : Int) > x6)) = false →
        I_nat_cmp_0 () (L_nat_cmp_0.mk (IntKind.i64.wrap (x2.t5 - 1))) V1 ∧ mu_nat_cmp_0 () (L_nat_cmp_0.mk (IntKind.i64.wrap (x2.t5 - 1))) V1 < mu_nat_cmp_0 () x2 V1))) ∧
      ((decide ((x2.t5 : Int) ≥ 0)) = false →
        R (.int .i64 0) V1)))) :
  CallV Try.prog 145 #[p0.v, p1.v] V R :=
  calls_of_vc (Shp := Shp) hmixed Try.func145 (c := Try.f145.body.getD .skip) (args := [p0.v, p1.v]) (by kernel_rfl)
    (.seq (.reg [⟨4, 2, false⟩]) (.seq (.seq (.reg [⟨6, 2, false⟩, ⟨7, 0, false⟩, ⟨8, 2, false⟩, ⟨9, 0, false⟩, ⟨10, 0, false⟩]) (.cond (.seq (.seq (.reg [⟨11, 2, false⟩, ⟨12, 0, false⟩, ⟨13, 2, false⟩, ⟨14, 0, false⟩, ⟨15, 0, false⟩]) (.cond (.seq (.reg [⟨4, 2, false⟩]) .leaf) .leaf)) (.seq (.reg [⟨4, 2, false⟩]) .leaf)) .leaf)) (.seq (.seq (.reg [⟨16, 2, false⟩, ⟨17, 0, false⟩, ⟨18, 0, false⟩, ⟨5, 2, false⟩]) (.block (.loop Unit L_nat_cmp_0 (fun _ => ()) (fun c x => { tm := spT 41 0 [(0, .val (p0.v)), (1, .val (p1.v)), (5, .val (.int .i64 x.t5))], own := spO 41 0 [] }) I_nat_cmp_0 mu_nat_cmp_0 (.seq (.seq (.reg [⟨19, 2, false⟩, ⟨20, 0, false⟩]) (.cond .leaf .leaf)) (.seq (.block (.seq (.seq (.draw [(0, ⟨23, 2, false⟩), (1, ⟨24, 2, false⟩), (2, ⟨25, 7, false⟩), (3, ⟨26, 5, false⟩), (4, ⟨27, 2, false⟩), (5, ⟨28, 2, false⟩), (6, ⟨29, 7, false⟩), (7, ⟨30, 5, false⟩), (8, ⟨31, 0, false⟩)] [0, 0, 3, 7, 0, 0, 48, 112, 255]) (.cond (.seq (.reg [⟨4, 2, false⟩]) .leaf) .leaf)) (.seq (.draw [(0, ⟨32, 2, false⟩), (1, ⟨33, 2, false⟩), (2, ⟨34, 7, false⟩), (3, ⟨35, 5, false⟩), (4, ⟨36, 2, false⟩), (5, ⟨37, 2, false⟩), (6, ⟨38, 7, false⟩), (7, ⟨39, 5, false⟩), (8, ⟨40, 0, false⟩)] [0, 0, 3, 7, 0, 0, 48, 112, 255]) (.cond (.seq (.reg [⟨4, 2, false⟩]) .leaf) .leaf)))) (.reg [⟨21, 2, false⟩, ⟨22, 0, false⟩, ⟨5, 2, false⟩])))))) (.seq (.reg [⟨4, 2, false⟩]) .leaf))))
    (Eq.mpr (by kernel_rfl) (show ((((p0.len : Int) : Int) != (p1.len : Int)) = true →
      ((decide (((p0.len : Int) : Int) < (p1.len : Int))) = true →
        R (.int .i64 (-1)) V) ∧
      ((decide (((p0.len : Int) : Int) < (p1.len : Int))) = false →
        R (.int .i64 1) V)) ∧
    ((((p0.len : Int) : Int) != (p1.len : Int)) = false →
      (∃ x1 : L_nat_cmp_0, ((SV.val (p0.v) = SV.val (p0.v) ∧ SV.val (p1.v) = SV.val (p1.v) ∧ SV.val (.int .i64 (IntKind.i64.wrap ((p0.len : Int) - 1))) = SV.val (.int .i64 x1.t5) ∧ True) ∧ (True)) ∧ I_nat_cmp_0 () x1 V) ∧
    (∀ (x2 : L_nat_cmp_0) (V1 : View), View.le V V1 → I_nat_cmp_0 () x2 V1 →
      ((decide ((x2.t5 : Int) ≥ 0)) = true →
        ((0 : Int) ≤ x2.t5 ∧ (x2.t5 : Int) < (p0.len : Nat) ∧ Option.isSome p0.a = true) ∧
      ∃ x3 : Int, View.load V1 (Option.map (fun q => Addr.add q (Int.toNat x2.t5 * 1)) p0.a) = some (.int .u32 x3) ∧
      ((0 : Int) ≤ x2.t5 ∧ (x2.t5 : Int) < (p1.len : Nat) ∧ Option.isSome p1.a = true) ∧
      ∃ x4 : Int, View.load V1 (Option.map (fun q => Addr.add q (Int.toNat x2.t5 * 1)) p1.a) = some (.int .u32 x4) ∧
      ((decide ((x3 : Int) < x4)) = true →
        R (.int .i64 (-1)) V1) ∧
      ((decide ((x3 : Int) < x4)) = false →
        ((0 : Int) ≤ x2.t5 ∧ (x2.t5 : Int) < (p0.len : Nat) ∧ Option.isSome p0.a = true) ∧
      ∃ x5 : Int, View.load V1 (Option.map (fun q => Addr.add q (Int.toNat x2.t5 * 1)) p0.a) = some (.int .u32 x5) ∧
      ((0 : Int) ≤ x2.t5 ∧ (x2.t5 : Int) < (p1.len : Nat) ∧ Option.isSome p1.a = true) ∧
      ∃ x6 : Int, View.load V1 (Option.map (fun q => Addr.add q (Int.toNat x2.t5 * 1)) p1.a) = some (.int .u32 x6) ∧
      ((decide ((x5 : Int) > x6)) = true →
        R (.int .i64 1) V1) ∧
      ((decide ((x5 : Int) > x6)) = false →
        ∃ x7 : L_nat_cmp_0, ((SV.val (p0.v) = SV.val (p0.v) ∧ SV.val (p1.v) = SV.val (p1.v) ∧ SV.val (.int .i64 (IntKind.i64.wrap (x2.t5 - 1))) = SV.val (.int .i64 x7.t5) ∧ True) ∧ (True)) ∧ I_nat_cmp_0 () x7 V1 ∧ mu_nat_cmp_0 () x7 V1 < mu_nat_cmp_0 () x2 V1))) ∧
      ((decide ((x2.t5 : Int) ≥ 0)) = false →
        R (.int .i64 0) V1))) from ⟨fun h15 => ⟨fun h1 => ((h.1 h15).1 h1), fun h1 => ((h.1 h15).2 h1)⟩, fun h15 => ⟨⟨(L_nat_cmp_0.mk (IntKind.i64.wrap ((p0.len : Int) - 1))), ⟨⟨rfl, rfl, rfl, trivial⟩, trivial⟩, (h.2 h15).1⟩, fun x2 V1 h13 h14 => ⟨fun h12 => ⟨(((h.2 h15).2 x2 V1 h13 h14).1 h12).1, (match (((h.2 h15).2 x2 V1 h13 h14).1 h12).2 with | ⟨x3, h11, h10⟩ => ⟨x3, h11, ⟨h10.1, (match h10.2 with | ⟨x4, h9, h8⟩ => ⟨x4, h9, ⟨fun h7 => (h8.1 h7), fun h7 => ⟨(h8.2 h7).1, (match (h8.2 h7).2 with | ⟨x5, h6, h5⟩ => ⟨x5, h6, ⟨h5.1, (match h5.2 with | ⟨x6, h4, h3⟩ => ⟨x6, h4, ⟨fun h2 => (h3.1 h2), fun h2 => ⟨(L_nat_cmp_0.mk (IntKind.i64.wrap (x2.t5 - 1))), ⟨⟨rfl, rfl, rfl, trivial⟩, trivial⟩, (h3.2 h2).1, (h3.2 h2).2⟩⟩⟩)⟩⟩)⟩⟩⟩)⟩⟩)⟩, fun h12 => (((h.2 h15).2 x2 V1 h13 h14).2 h12)⟩⟩⟩))

structure L_nat_add_0 where
  t0 : Sl
  t1 : Sl
structure L_nat_add_1 where
  t6 : Int
  t22 : Int
  o19 : List Value
structure C_nat_add_1 where
  t0 : Sl
  t1 : Sl
  t5l : Nat
  t5c : Nat
  t21 : Int
/-- (waveport/num.nat).add -/
theorem nat_add_vc (p0 : Sl) (p1 : Sl) (V : View) (R : Value → View → Prop) (I_nat_add_0 : Unit → L_nat_add_0 → View → Prop) (I_nat_add_1 : C_nat_add_1 → L_nat_add_1 → View → Prop) (mu_nat_add_1 : C_nat_add_1 → L_nat_add_1 → View → Nat)
  (h :
    (((decide (((p0.len : Int) : Int) < (p1.len : Int))) = true →
        I_nat_add_0 () (L_nat_add_0.mk p1 p0) V) ∧
      ((decide (((p0.len : Int) : Int) < (p1.len : Int))) = false →
        I_nat_add_0 () (L_nat_add_0.mk p0 p1) V)) ∧
    (∀ (x1 : L_nat_add_0) (V1 : View), View.le V V1 → I_nat_add_0 () x1 V1 →
      ((0 : Int) ≤ (IntKind.i64.wrap ((x1.t0.len : Int) + 1)) ∧ ((IntKind.i64.wrap ((x1.t0.len : Int) + 1)) : Int) ≤ (IntKind.i64.wrap ((x1.t0.len : Int) + 1)) ∧ (4 : Int) * (IntKind.i64.wrap ((x1.t0.len : Int) + 1)) ≤ 281474976710656 ∧ ((IntKind.i64.wrap ((x1.t0.len : Int) + 1)) : Int) ≤ 9223372036854775807) ∧
      I_nat_add_1 (C_nat_add_1.mk x1.t0 x1.t1 (Int.toNat (IntKind.i64.wrap ((x1.t0.len : Int) + 1))) (Int.toNat (IntKind.i64.wrap ((x1.t0.len : Int) + 1))) (x1.t0.len : Int)) (L_nat_add_1.mk 0 0 ((List.replicate (Int.toNat (IntKind.i64.wrap ((x1.t0.len : Int) + 1))) [Value.int .u32 0]).flatten)) V1 ∧
      (∀ (x5 : L_nat_add_1) (V2 : View), View.le V1 V2 → I_nat_add_1 (C_nat_add_1.mk x1.t0 x1.t1 (Int.toNat (IntKind.i64.wrap ((x1.t0.len : Int) + 1))) (Int.toNat (IntKind.i64.wrap ((x1.t0.len : Int) + 1))) (x1.t0.len : Int)) x5 V2 →
        ((decide ((x5.t22 : Int) < (x1.t0.len : Int))) = true →
          ((decide ((x5.t22 : Int) < (x1.t1.len : Int))) = true →
          ((0 : Int) ≤ x5.t22 ∧ (x5.t22 : Int) < (x1.t1.len : Nat) ∧ Option.isSome x1.t1.a = true) ∧
          ∃ x6 : Int, View.load V2 (Option.map (fun q => Addr.add q (Int.toNat x5.t22 * 1)) x1.t1.a) = some (.int .u32 x6) ∧
          ((0 : Int) ≤ x5.t22 ∧ (x5.t22 : Int) < (x1.t0.len : Nat) ∧ Option.isSome x1.t0.a = true) ∧
        ∃ x7 : Int, View.load V2 (Option.map (fun q => Addr.add q (Int.toNat x5.t22 * 1)) x1.t0.a) = some (.int .u32 x7) ∧
        CallV Try.prog 167 #[.int .u32 x7, .int .u32 x6, .int .u32 x5.t6] V2 fun v V3 => ∃ (r1 : Int) (r2 : Int), v = .tuple #[.int .u32 r1, .int .u32 r2] ∧ -- math/bits.Add32
        ((0 : Int) ≤ x5.t22 ∧ (x5.t22 : Int) < (Int.toNat (IntKind.i64.wrap ((x1.t0.len : Int) + 1)) : Nat)) ∧
        0 + Int.toNat x5.t22 * 1 + 1 ≤ List.length x5.o19 ∧
        I_nat_add_1 (C_nat_add_1.mk x1.t0 x1.t1 (Int.toNat (IntKind.i64.wrap ((x1.t0.len : Int) + 1))) (Int.toNat (IntKind.i64.wrap ((x1.t0.len : Int) + 1))) (x1.t0.len : Int)) (L_nat_add_1.mk r2 (IntKind.i64.wrap (x5.t22 + 1)) (List.set x5.o19 (0 + Int.toNat x5.t22 * 1) (.int .u32 r1))) V3 ∧ mu_nat_add_1 (C_nat_add_1.mk x1.t0 x1.t1 (Int.toNat (IntKind.i64.wrap ((x1.t0.len : Int) + 1))) (Int.toNat (IntKind.i64.wrap ((x1.t0.len : Int) + 1))) (x1.t0.len : Int)) (L_nat_add_1.mk r2 (IntKind.i64.wrap (x5.t22 + 1)) (List.set x5.o19 (0 + Int.toNat x5.t22 * 1) (.int .u32 r1))) V3 < mu_nat_add_1 (C_nat_add_1.mk x1.t0 x1.t1 (Int.toNat (IntKind.i64.wrap ((x1.t0.len : Int) + 1))) (Int.toNat (IntKind.i64.wrap ((x1.t0.len : Int) + 1))) (x1.t0.len : Int)) x5 V2) ∧
        ((decide ((x5.t22 : Int) < (x1.t1.len : Int))) = false →
          ((0 : Int) ≤ x5.t22 ∧ (x5.t22 : Int) < (x1.t0.len : Nat) ∧ Option.isSome x1.t0.a = true) ∧
        ∃ x9 : Int, View.load V2 (Option.map (fun q => Addr.add q (Int.toNat x5.t22 * 1)) x1.t0.a) = some (.int .u32 x9) ∧
        CallV Try.prog 167 #[.int .u32 x9, .int .u32 0, .int .u32 x5.t6] V2 fun v V4 => ∃ (r3 : Int) (r4 : Int), v = .tuple #[.int .u32 r3, .int .u32 r4] ∧ -- math/bits.Add32
        ((0 : Int) ≤ x5.t22 ∧ (x5.t22 : Int) < (Int.toNat (IntKind.i64.wrap ((x1.t0.len : Int) + 1)) : Nat)) ∧
        0 + Int.toNat x5.t22 * 1 + 1 ≤ List.length x5.o19 ∧
        I_nat_add_1 (C_nat_add_1.mk x1.t0 x1.t1 (Int.toNat (IntKind.i64.wrap ((x1.t0.len : Int) + 1))) (Int.toNat (IntKind.i64.wrap ((x1.t0.len : Int) + 1))) (x1.t0.len : Int)) (L_nat_add_1.mk r4 (IntKind.i64.wrap (x5.t22 + 1)) (List.set x5.o19 (0 + Int.toNat x5.t22 * 1) (.int .u32 r3))) V4 ∧ mu_nat_add_1 (C_nat_add_1.mk x1.t0 x1.t1 (Int.toNat (IntKind.i64.wrap ((x1.t0.len : Int) + 1))) (Int.toNat (IntKind.i64.wrap ((x1.t0.len : Int) + 1))) (x1.t0.len : Int)) (L_nat_add_1.mk r4 (IntKind.i64.wrap (x5.t22 + 1)) (List.set x5.o19 (0 + Int.toNat x5.t22 * 1) (.int .u32 r3))) V4 < mu_nat_add_1 (C_nat_add_1.mk x1.t0 x1.t1 (Int.toNat (IntKind.i64.wrap ((x1.t0.len : Int) + 1))) (Int.toNat (IntKind.i64.wrap ((x1.t0.len : Int) + 1))) (x1.t0.len : Int)) x5 V2)) ∧
        ((decide ((x5.t22 : Int) < (x1.t0.len : Int))) = false →
          ((0 : Int) ≤ (x1.t0.len : Int) ∧ ((x1.t0.len : Int) : Int) < (Int.toNat (IntKind.i64.wrap ((x1.t0.len : Int) + 1)) : Nat)) ∧
      0 + Int.toNat (x1.t0.len : Int) * 1 + 1 ≤ List.length x5.o19 ∧
      ∀ (b1 : Nat) (V5 : View), View.le V2 V5 → V5 b1 = some (List.toArray (List.set x5.o19 (0 + Int.toNat (x1.t0.len : Int) * 1) (.int .u32 x5.t6))) →
      CallV Try.prog 147 #[(Sl.mk (some (Addr.mk b1 0 none)) (Int.toNat (IntKind.i64.wrap ((x1.t0.len : Int) + 1))) (Int.toNat (IntKind.i64.wrap ((x1.t0.len : Int) + 1)))).v] V5 fun v V6 => ∃ r5 : Sl, v = r5.v ∧ -- num.trim
      R (r5.v) V6)))) :
  CallV Try.prog 144 #[p0.v, p1.v] V R :=
  calls_of_vc (Shp := Shp) hmixed Try.func144 (c := Try.f144.body.getD .skip) (args := [p0.v, p1.v]) (by kernel_rfl)
    (.seq (.reg [⟨4, 2, false⟩]) (.cut Unit L_nat_add_0 (fun _ => ()) (fun c x => { tm := spT 54 0 [(0, .val (x.t0.v)), (1, .val (x.t1.v))], own := spO 54 0 [] }) I_nat_add_0 (.seq (.reg [⟨9, 2, false⟩, ⟨10, 0, false⟩, ⟨11, 2, false⟩, ⟨12, 0, false⟩, ⟨13, 0, false⟩]) (.cond (.reg [⟨14, 2, false⟩, ⟨15, 2, false⟩, ⟨0, 2, false⟩, ⟨1, 2, false⟩]) .leaf)) (.seq (.reg [⟨16, 2, false⟩, ⟨17, 0, false⟩, ⟨18, 0, false⟩, ⟨19, 3, false⟩, ⟨5, 2, false⟩]) (.seq (.reg [⟨6, 2, false⟩]) (.seq (.seq (.reg [⟨20, 2, false⟩, ⟨21, 0, false⟩, ⟨22, 2, false⟩]) (.block (.loop C_nat_add_1 L_nat_add_1 (fun σ => C_nat_add_1.mk (Sl.mk (gSlA (gTm σ 0)) (gSlL (gTm σ 0)) (gSlC (gTm σ 0))) (Sl.mk (gSlA (gTm σ 1)) (gSlL (gTm σ 1)) (gSlC (gTm σ 1))) (gLen (gTm σ 5)) (gCap (gTm σ 5)) (gInt (gTm σ 21))) (fun c x => { tm := spT 54 0 [(0, .val (c.t0.v)), (1, .val (c.t1.v)), (5, .osl 19 0 c.t5l c.t5c), (6, .val (.int .u32 x.t6)), (21, .val (.int .i64 c.t21)), (22, .val (.int .i64 x.t22))], own := spO 54 0 [(19, ⟨142, .dyn x.o19⟩)] }) I_nat_add_1 mu_nat_add_1 (.seq (.reg [⟨23, 0, false⟩]) (.seq (.cond .leaf .leaf) (.seq (.block (.seq (.reg [⟨24, 2, false⟩, ⟨7, 2, false⟩]) (.seq (.reg [⟨8, 2, false⟩]) (.seq (.seq (.reg [⟨25, 2, false⟩, ⟨26, 2, false⟩, ⟨27, 0, false⟩, ⟨28, 0, false⟩]) (.cond (.reg [⟨29, 2, false⟩, ⟨30, 2, false⟩, ⟨31, 7, false⟩, ⟨32, 5, false⟩, ⟨8, 2, false⟩]) .leaf)) (.reg [⟨34, 2, false⟩, ⟨35, 2, false⟩, ⟨36, 2, false⟩, ⟨37, 2, false⟩, ⟨38, 7, false⟩, ⟨39, 5, false⟩, ⟨40, 2, false⟩, ⟨41, 2, false⟩, ⟨42, 10, false⟩, ⟨33, 2, false⟩, ⟨43, 0, false⟩, ⟨44, 0, false⟩, ⟨45, 7, false⟩, ⟨19, 6, false⟩, ⟨6, 2, false⟩]))))) (.reg [⟨46, 0, false⟩, ⟨22, 2, false⟩]))))))) (.seq (.reg [⟨47, 2, false⟩, ⟨48, 2, false⟩, ⟨49, 0, false⟩, ⟨50, 2, false⟩, ⟨51, 7, false⟩, ⟨19, 6, false⟩]) (.seq (.pub 19 (.reg [⟨52, 2, false⟩, ⟨53, 10, false⟩, ⟨4, 2, false⟩])) .leaf)))))))
    (Eq.mpr (by kernel_rfl) (show (((decide (((p0.len : Int) : Int) < (p1.len : Int))) = true →
        ∃ x2 : L_nat_add_0, ((SV.val (p1.v) = SV.val (x2.t0.v) ∧ SV.val (p0.v) = SV.val (x2.t1.v) ∧ True) ∧ (True)) ∧ I_nat_add_0 () x2 V) ∧
      ((decide (((p0.len : Int) : Int) < (p1.len : Int))) = false →
        ∃ x3 : L_nat_add_0, ((SV.val (p0.v) = SV.val (x3.t0.v) ∧ SV.val (p1.v) = SV.val (x3.t1.v) ∧ True) ∧ (True)) ∧ I_nat_add_0 () x3 V)) ∧
    (∀ (x1 : L_nat_add_0) (V1 : View), View.le V V1 → I_nat_add_0 () x1 V1 →
      ((0 : Int) ≤ (IntKind.i64.wrap ((x1.t0.len : Int) + 1)) ∧ ((IntKind.i64.wrap ((x1.t0.len : Int) + 1)) : Int) ≤ (IntKind.i64.wrap ((x1.t0.len : Int) + 1)) ∧ (4 : Int) * (IntKind.i64.wrap ((x1.t0.len : Int) + 1)) ≤ 281474976710656 ∧ ((IntKind.i64.wrap ((x1.t0.len : Int) + 1)) : Int) ≤ 9223372036854775807) ∧
      (∃ x4 : L_nat_add_1, ((SV.val (x1.t0.v) = SV.val (x1.t0.v) ∧ SV.val (x1.t1.v) = SV.val (x1.t1.v) ∧ SV.osl 19 0 (Int.toNat (IntKind.i64.wrap ((x1.t0.len : Int) + 1))) (Int.toNat (IntKind.i64.wrap ((x1.t0.len : Int) + 1))) = SV.osl 19 0 (Int.toNat (IntKind.i64.wrap ((x1.t0.len : Int) + 1))) (Int.toNat (IntKind.i64.wrap ((x1.t0.len : Int) + 1))) ∧ SV.val (.int .u32 0) = SV.val (.int .u32 x4.t6) ∧ SV.val (.int .i64 (x1.t0.len : Int)) = SV.val (.int .i64 (x1.t0.len : Int)) ∧ SV.val (.int .i64 0) = SV.val (.int .i64 x4.t22) ∧ True) ∧ ((some (⟨142, .dyn ((List.replicate (Int.toNat (IntKind.i64.wrap ((x1.t0.len : Int) + 1))) [Value.int .u32 0]).flatten)⟩) : Option OB) = some (⟨142, .dyn x4.o19⟩) ∧ True)) ∧ I_nat_add_1 (C_nat_add_1.mk x1.t0 x1.t1 (Int.toNat (IntKind.i64.wrap ((x1.t0.len : Int) + 1))) (Int.toNat (IntKind.i64.wrap ((x1.t0.len : Int) + 1))) (x1.t0.len : Int)) x4 V1) ∧
      (∀ (x5 : L_nat_add_1) (V2 : View), View.le V1 V2 → I_nat_add_1 (C_nat_add_1.mk x1.t0 x1.t1 (Int.toNat (IntKind.i64.wrap ((x1.t0.len : Int) + 1))) (Int.toNat (IntKind.i64.wrap ((x1.t0.len : Int) + 1))) (x1.t0.len : Int)) x5 V2 →
        ((decide ((x5.t22 : Int) < (x1.t0.len : Int))) = true →
          ((decide ((x5.t22 : Int) < (x1.t1.len : Int))) = true →
          ((0 : Int) ≤ x5.t22 ∧ (x5.t22 : Int) < (x1.t1.len : Nat) ∧ Option.isSome x1.t1.a = true) ∧
          ∃ x6 : Int, View.load V2 (Option.map (fun q => Addr.add q (Int.toNat x5.t22 * 1)) x1.t1.a) = some (.int .u32 x6) ∧
          ((0 : Int) ≤ x5.t22 ∧ (x5.t22 : Int) < (x1.t0.len : Nat) ∧ Option.isSome x1.t0.a = true) ∧
        ∃ x7 : Int, View.load V2 (Option.map (fun q => Addr.add q (Int.toNat x5.t22 * 1)) x1.t0.a) = some (.int .u32 x7) ∧
        CallV Try.prog 167 #[.int .u32 x7, .int .u32 x6, .int .u32 x5.t6] V2 fun v V3 => ∃ (r1 : Int) (r2 : Int), v = .tuple #[.int .u32 r1, .int .u32 r2] ∧ -- math/bits.Add32
        ((0 : Int) ≤ x5.t22 ∧ (x5.t22 : Int) < (Int.toNat (IntKind.i64.wrap ((x1.t0.len : Int) + 1)) : Nat)) ∧
        0 + Int.toNat x5.t22 * 1 + 1 ≤ List.length x5.o19 ∧
        ∃ x8 : L_nat_add_1, ((SV.val (x1.t0.v) = SV.val (x1.t0.v) ∧ SV.val (x1.t1.v) = SV.val (x1.t1.v) ∧ SV.osl 19 0 (Int.toNat (IntKind.i64.wrap ((x1.t0.len : Int) + 1))) (Int.toNat (IntKind.i64.wrap ((x1.t0.len : Int) + 1))) = SV.osl 19 0 (Int.toNat (IntKind.i64.wrap ((x1.t0.len : Int) + 1))) (Int.toNat (IntKind.i64.wrap ((x1.t0.len : Int) + 1))) ∧ SV.val (.int .u32 r2) = SV.val (.int .u32 x8.t6) ∧ SV.val (.int .i64 (x1.t0.len : Int)) = SV.val (.int .i64 (x1.t0.len : Int)) ∧ SV.val (.int .i64 (IntKind.i64.wrap (x5.t22 + 1))) = SV.val (.int .i64 x8.t22) ∧ True) ∧ ((some (⟨142, .dyn (List.set x5.o19 (0 + Int.toNat x5.t22 * 1) (.int .u32 r1))⟩) : Option OB) = some (⟨142, .dyn x8.o19⟩) ∧ True)) ∧ I_nat_add_1 (C_nat_add_1.mk x1.t0 x1.t1 (Int.toNat (IntKind.i64.wrap ((x1.t0.len : Int) + 1))) (Int.toNat (IntKind.i64.wrap ((x1.t0.len : Int) + 1))) (x1.t0.len : Int)) x8 V3 ∧ mu_nat_add_1 (C_nat_add_1.mk x1.t0 x1.t1 (Int.toNat (IntKind.i64.wrap ((x1.t0.len : Int) + 1))) (Int.toNat (IntKind.i64.wrap ((x1.t0.len : Int) + 1))) (x1.t0.len : Int)) x8 V3 < mu_nat_add_1 (C_nat_add_1.mk x1.t0 x1.t1 (Int.toNat (IntKind.i64.wrap ((x1.t0.len : Int) + 1))) (Int.toNat (IntKind.i64.wrap ((x1.t0.len : Int) + 1))) (x1.t0.len : Int)) x5 V2) ∧
        ((decide ((x5.t22 : Int) < (x1.t1.len : Int))) = false →
          ((0 : Int) ≤ x5.t22 ∧ (x5.t22 : Int) < (x1.t0.len : Nat) ∧ Option.isSome x1.t0.a = true) ∧
        ∃ x9 : Int, View.load V2 (Option.map (fun q => Addr.add q (Int.toNat x5.t22 * 1)) x1.t0.a) = some (.int .u32 x9) ∧
        CallV Try.prog 167 #[.int .u32 x9, .int .u32 0, .int .u32 x5.t6] V2 fun v V4 => ∃ (r3 : Int) (r4 : Int), v = .tuple #[.int .u32 r3, .int .u32 r4] ∧ -- math/bits.Add32
        ((0 : Int) ≤ x5.t22 ∧ (x5.t22 : Int) < (Int.toNat (IntKind.i64.wrap ((x1.t0.len : Int) + 1)) : Nat)) ∧
        0 + Int.toNat x5.t22 * 1 + 1 ≤ List.length x5.o19 ∧
        ∃ x10 : L_nat_add_1, ((SV.val (x1.t0.v) = SV.val (x1.t0.v) ∧ SV.val (x1.t1.v) = SV.val (x1.t1.v) ∧ SV.osl 19 0 (Int.toNat (IntKind.i64.wrap ((x1.t0.len : Int) + 1))) (Int.toNat (IntKind.i64.wrap ((x1.t0.len : Int) + 1))) = SV.osl 19 0 (Int.toNat (IntKind.i64.wrap ((x1.t0.len : Int) + 1))) (Int.toNat (IntKind.i64.wrap ((x1.t0.len : Int) + 1))) ∧ SV.val (.int .u32 r4) = SV.val (.int .u32 x10.t6) ∧ SV.val (.int .i64 (x1.t0.len : Int)) = SV.val (.int .i64 (x1.t0.len : Int)) ∧ SV.val (.int .i64 (IntKind.i64.wrap (x5.t22 + 1))) = SV.val (.int .i64 x10.t22) ∧ True) ∧ ((some (⟨142, .dyn (List.set x5.o19 (0 + Int.toNat x5.t22 * 1) (.int .u32 r3))⟩) : Option OB) = some (⟨142, .dyn x10.o19⟩) ∧ True)) ∧ I_nat_add_1 (C_nat_add_1.mk x1.t0 x1.t1 (Int.toNat (IntKind.i64.wrap ((x1.t0.len : Int) + 1))) (Int.toNat (IntKind.i64.wrap ((x1.t0.len : Int) + 1))) (x1.t0.len : Int)) x10 V4 ∧ mu_nat_add_1 (C_nat_add_1.mk x1.t0 x1.t1 (Int.toNat (IntKind.i64.wrap ((x1.t0.len : Int) + 1))) (Int.toNat (IntKind.i64.wrap ((x1.t0.len : Int) + 1))) (x1.t0.len : Int)) x10 V4 < mu_nat_add_1 (C_nat_add_1.mk x1.t0 x1.t1 (Int.toNat (IntKind.i64.wrap ((x1.t0.len : Int) + 1))) (Int.toNat (IntKind.i64.wrap ((x1.t0.len : Int) + 1))) (x1.t0.len : Int)) x5 V2)) ∧
        ((decide ((x5.t22 : Int) < (x1.t0.len : Int))) = false →
          ((0 : Int) ≤ (x1.t0.len : Int) ∧ ((x1.t0.len : Int) : Int) < (Int.toNat (IntKind.i64.wrap ((x1.t0.len : Int) + 1)) : Nat)) ∧
      0 + Int.toNat (x1.t0.len : Int) * 1 + 1 ≤ List.length x5.o19 ∧
      ∀ (b1 : Nat) (V5 : View), View.le V2 V5 → V5 b1 = some (List.toArray (List.set x5.o19 (0 + Int.toNat (x1.t0.len : Int) * 1) (.int .u32 x5.t6))) →
      CallV Try.prog 147 #[(Sl.mk (some (Addr.mk b1 0 none)) (Int.toNat (IntKind.i64.wrap ((x1.t0.len : Int) + 1))) (Int.toNat (IntKind.i64.wrap ((x1.t0.len : Int) + 1)))).v] V5 fun v V6 => ∃ r5 : Sl, v = r5.v ∧ -- num.trim
      R (r5.v) V6))) from ⟨⟨fun h1 => ⟨(L_nat_add_0.mk p1 p0), ⟨⟨rfl, rfl, trivial⟩, trivial⟩, (h.1.1 h1)⟩, fun h1 => ⟨(L_nat_add_0.mk p0 p1), ⟨⟨rfl, rfl, trivial⟩, trivial⟩, (h.1.2 h1)⟩⟩, fun x1 V1 h20 h21 => ⟨(h.2 x1 V1 h20 h21).1, ⟨⟨(L_nat_add_1.mk 0 0 ((List.replicate (Int.toNat (IntKind.i64.wrap ((x1.t0.len : Int) + 1))) [Value.int .u32 0]).flatten)), ⟨⟨rfl, rfl, rfl, rfl, rfl, rfl, trivial⟩, ⟨rfl, trivial⟩⟩, (h.2 x1 V1 h20 h21).2.1⟩, fun x5 V2 h18 h19 => ⟨fun h17 => ⟨fun h12 => ⟨((((h.2 x1 V1 h20 h21).2.2 x5 V2 h18 h19).1 h17).1 h12).1, (match ((((h.2 x1 V1 h20 h21).2.2 x5 V2 h18 h19).1 h17).1 h12).2 with | ⟨x6, h7, h6⟩ => ⟨x6, h7, ⟨h6.1, (match h6.2 with | ⟨x7, h5, h4⟩ => ⟨x7, h5, (CallV.mono h4 (fun _ _ _ ⟨r1, r2, h3, h2⟩ => ⟨r1, r2, h3, ⟨h2.1, ⟨h2.2.1, ⟨(L_nat_add_1.mk r2 (IntKind.i64.wrap (x5.t22 + 1)) (List.set x5.o19 (0 + Int.toNat x5.t22 * 1) (.int .u32 r1))), ⟨⟨rfl, rfl, rfl, rfl, rfl, rfl, trivial⟩, ⟨rfl, trivial⟩⟩, h2.2.2.1, h2.2.2.2⟩⟩⟩⟩))⟩)⟩⟩)⟩, fun h12 => ⟨((((h.2 x1 V1 h20 h21).2.2 x5 V2 h18 h19).1 h17).2 h12).1, (match ((((h.2 x1 V1 h20 h21).2.2 x5 V2 h18 h19).1 h17).2 h12).2 with | ⟨x9, h11, h10⟩ => ⟨x9, h11, (CallV.mono h10 (fun _ _ _ ⟨r3, r4, h9, h8⟩ => ⟨r3, r4, h9, ⟨h8.1, ⟨h8.2.1, ⟨(L_nat_add_1.mk r4 (IntKind.i64.wrap (x5.t22 + 1)) (List.set x5.o19 (0 + Int.toNat x5.t22 * 1) (.int .u32 r3))), ⟨⟨rfl, rfl, rfl, rfl, rfl, rfl, trivial⟩, ⟨rfl, trivial⟩⟩, h8.2.2.1, h8.2.2.2⟩⟩⟩⟩))⟩)⟩⟩, fun h17 => ⟨(((h.2 x1 V1 h20 h21).2.2 x5 V2 h18 h19).2 h17).1, ⟨(((h.2 x1 V1 h20 h21).2.2 x5 V2 h18 h19).2 h17).2.1, (fun b1 V5 h15 h16 => (CallV.mono ((((h.2 x1 V1 h20 h21).2.2 x5 V2 h18 h19).2 h17).2.2 b1 V5 h15 h16) (fun _ _ _ ⟨r5, h14, h13⟩ => ⟨r5, h14, h13⟩)))⟩⟩⟩⟩⟩⟩))

/-- math/bits.Add32 -/
theorem bits_Add32_vc (p0 : Int) (p1 : Int) (p2 : Int) (V : View) (R : Value → View → Prop) 
  (h :
    R (.tuple #[.int .u32 (IntKind.u32.wrap (IntKind.u64.wrap ((IntKind.u64.wrap ((IntKind.u64.wrap p0) + (IntKind.u64.wrap p1))) + (IntKind.u64.wrap p2)))), .int .u32 (IntKind.u32.wrap (Int.fdiv (IntKind.u64.wrap ((IntKind.u64.wrap ((IntKind.u64.wrap p0) + (IntKind.u64.wrap p1))) + (IntKind.u64.wrap p2))) (2 ^ (min (Int.toNat 32) (IntKind.u64.bits)))))]) V) :
  CallV Try.prog 167 #[.int .u32 p0, .int .u32 p1, .int .u32 p2] V R :=
  calls_of_vc (Shp := Shp) hmixed Try.func167 (c := Try.f167.body.getD .skip) (args := [.int .u32 p0, .int .u32 p1, .int .u32 p2]) (by kernel_rfl)
    (.seq (.reg [⟨6, 2, false⟩, ⟨7, 2, false⟩]) (.seq (.reg [⟨9, 2, false⟩, ⟨10, 0, false⟩, ⟨11, 2, false⟩, ⟨12, 0, false⟩, ⟨13, 0, false⟩, ⟨14, 2, false⟩, ⟨15, 0, false⟩, ⟨16, 0, false⟩, ⟨8, 2, false⟩]) (.seq (.reg [⟨17, 2, false⟩, ⟨18, 0, false⟩, ⟨6, 2, false⟩]) (.seq (.reg [⟨19, 2, false⟩, ⟨20, 0, false⟩, ⟨21, 0, false⟩, ⟨7, 2, false⟩]) .leaf))))
    (Eq.mpr (by kernel_rfl) h)

/-- math/bits.Sub32 -/
theorem bits_Sub32_vc (p0 : Int) (p1 : Int) (p2 : Int) (V : View) (R : Value → View → Prop) 
  (h :
    R (.tuple #[.int .u32 (IntKind.u32.wrap ((IntKind.u32.wrap (p0 - p1)) - p2)), .int .u32 (Int.fdiv (IntKind.u32.wrap (BitVec.toNat ((BitVec.ofInt IntKind.u32.bits (IntKind.u32.wrap (BitVec.toNat ((BitVec.ofInt IntKind.u32.bits (IntKind.u32.wrap (BitVec.toNat ((BitVec.ofInt IntKind.u32.bits IntKind.u32.max) ^^^ (BitVec.ofInt IntKind.u32.bits p0))))) &&& (BitVec.ofInt IntKind.u32.bits p1))))) ||| (BitVec.ofInt IntKind.u32.bits (IntKind.u32.wrap (BitVec.toNat ((BitVec.ofInt IntKind.u32.bits (IntKind.u32.wrap (BitVec.toNat ((BitVec.ofInt IntKind.u32.bits IntKind.u32.max) ^^^ (BitVec.ofInt IntKind.u32.bits (IntKind.u32.wrap (BitVec.toNat ((BitVec.ofInt IntKind.u32.bits p0) ^^^ (BitVec.ofInt IntKind.u32.bits p1))))))))) &&& (BitVec.ofInt IntKind.u32.bits (IntKind.u32.wrap ((IntKind.u32.wrap (p0 - p1)) - p2)))))))))) (2 ^ (min (Int.toNat 31) (IntKind.u32.bits))))]) V) :
  CallV Try.prog 168 #[.int .u32 p0, .int .u32 p1, .int .u32 p2] V R :=
  calls_of_vc (Shp := Shp) hmixed Try.func168 (c := Try.f168.body.getD .skip) (args := [.int .u32 p0, .int .u32 p1, .int .u32 p2]) (by kernel_rfl)
    (.seq (.reg [⟨6, 2, false⟩, ⟨7, 2, false⟩]) (.seq (.reg [⟨8, 2, false⟩, ⟨9, 2, false⟩, ⟨10, 0, false⟩, ⟨11, 2, false⟩, ⟨12, 0, false⟩, ⟨6, 2, false⟩]) (.seq (.reg [⟨13, 2, false⟩, ⟨14, 0, false⟩, ⟨15, 2, false⟩, ⟨16, 0, false⟩, ⟨17, 2, false⟩, ⟨18, 2, false⟩, ⟨19, 0, false⟩, ⟨20, 0, false⟩, ⟨21, 2, false⟩, ⟨22, 0, false⟩, ⟨23, 0, false⟩, ⟨24, 0, false⟩, ⟨7, 2, false⟩]) .leaf)))
    (Eq.mpr (by kernel_rfl) h)

structure L_nat_sub_0 where
  t6 : Int
  t14 : Int
  o11 : List Value
/-- (waveport/num.nat).sub -/
theorem nat_sub_vc (p0 : Sl) (p1 : Sl) (V : View) (R : Value → View → Prop) (I_nat_sub_0 : Unit → L_nat_sub_0 → View → Prop) (mu_nat_sub_0 : Unit → L_nat_sub_0 → View → Nat)
  (h :
    ((0 : Int) ≤ (p0.len : Int) ∧ ((p0.len : Int) : Int) ≤ (p0.len : Int) ∧ (4 : Int) * (p0.len : Int) ≤ 281474976710656 ∧ ((p0.len : Int) : Int) ≤ 9223372036854775807) ∧
    I_nat_sub_0 () (L_nat_sub_0.mk 0 0 ((List.replicate (Int.toNat (p0.len : Int)) [Value.int .u32 0]).flatten)) V ∧
    (∀ (x2 : L_nat_sub_0) (V1 : View), View.le V V1 → I_nat_sub_0 () x2 V1 →
      ((decide ((x2.t14 : Int) < (p0.len : Int))) = true →
        ((decide ((x2.t14 : Int) < (p1.len : Int))) = true →
        ((0 : Int) ≤ x2.t14 ∧ (x2.t14 : Int) < (p1.len : Nat) ∧ Option.isSome p1.a = true) ∧
        ∃ x3 : Int, View.load V1 (Option.map (fun q => Addr.add q (Int.toNat x2.t14 * 1)) p1.a) = some (.int .u32 x3) ∧
        ((0 : Int) ≤ x2.t14 ∧ (x2.t14 : Int) < (p0.len : Nat) ∧ Option.isSome p0.a = true) ∧
      ∃ x4 : Int, View.load V1 (Option.map (fun q => Addr.add q (Int.toNat x2.t14 * 1)) p0.a) = some (.int .u32 x4) ∧
      CallV Try.prog 168 #[.int .u32 x4, .int .u32 x3, .int .u32 x2.t6] V1 fun v V2 => ∃ (r1 : Int) (r2 : Int), v = .tuple #[.int .u32 r1, .int .u32 r2] ∧ -- math/bits.Sub32
      ((0 : Int) ≤ x2.t14 ∧ (x2.t14 : Int) < (Int.toNat (p0.len : Int) : Nat)) ∧
      0 + Int.toNat x2.t14 * 1 + 1 ≤ List.length x2.o11 ∧
      I_nat_sub_0 () (L_nat_sub_0.mk r2 (IntKind.i64.wrap (x2.t14 + 1)) (List.set x2.o11 (0 + Int.toNat x2.t14 * 1) (.int .u32 r1))) V2 ∧ mu_nat_sub_0 () (L_nat_sub_0.mk r2 (IntKind.i64.wrap (x2.t14 + 1)) (List.set x2.o11 (0 + Int.toNat x2.t14 * 1) (.int .u32 r1))) V2 < mu_nat_sub_0 () x2 V1) ∧
      ((decide ((x2.t14 : Int) < (p1.len : Int))) = false →
        ((0 : Int) ≤ x2.t14 ∧ (x2.t14 : Int) < (p0.len : Nat) ∧ Option.isSome p0.a = true) ∧
      ∃ x6 : Int, View.load V1 (Option.map (fun q => Addr.add q (Int.toNat x2.t14 * 1)) p0.a) = some (.int .u32 x6) ∧
      CallV Try.prog 168 #[.int .u32 x6, .int .u32 0, .int .u32 x2.t6] V1 fun v V3 => ∃ (r3 : Int) (r4 : Int), v = .tuple #[.int .u32 r3, .int .u32 r4] ∧ -- math/bits.Sub32
      ((0 : Int) ≤ x2.t14 ∧ (x2.t14 : Int) < (Int.toNat (p0.len : Int) : Nat)) ∧
      0 + Int.toNat x2.t14 * 1 + 1 ≤ List.length x2.o11 ∧
      I_nat_sub_0 () (L_nat_sub_0.mk r4 (IntKind.i64.wrap (x2.t14 + 1)) (List.set x2.o11 (0 + Int.toNat x2.t14 * 1) (.int .u32 r3))) V3 ∧ mu_nat_sub_0 () (L_nat_sub_0.mk r4 (IntKind.i64.wrap (x2.t14 + 1)) (List.set x2.o11 (0 + Int.toNat x2.t14 * 1) (.int .u32 r3))) V3 < mu_nat_sub_0 () x2 V1)) ∧
      ((decide ((x2.t14 : Int) < (p0.len : Int))) = false →
        ∀ (b1 : Nat) (V4 : View), View.le V1 V4 → V4 b1 = some (List.toArray x2.o11) →
    CallV Try.prog 147 #[(Sl.mk (some (Addr.mk b1 0 none)) (Int.toNat (p0.len : Int)) (Int.toNat (p0.len : Int))).v] V4 fun v V5 => ∃ r5 : Sl, v = r5.v ∧ -- num.trim
    R (r5.v) V5))) :
  CallV Try.prog 146 #[p0.v, p1.v] V R :=
  calls_of_vc (Shp := Shp) hmixed Try.func146 (c := Try.f146.body.getD .skip) (args := [p0.v, p1.v]) (by kernel_rfl)
    (.seq (.reg [⟨4, 2, false⟩]) (.seq (.reg [⟨9, 2, false⟩, ⟨10, 0, false⟩, ⟨11, 3, false⟩, ⟨5, 2, false⟩]) (.seq (.reg [⟨6, 2, false⟩]) (.seq (.seq (.reg [⟨12, 2, false⟩, ⟨13, 0, false⟩, ⟨14, 2, false⟩]) (.block (.loop Unit L_nat_sub_0 (fun _ => ()) (fun c x => { tm := spT 41 0 [(0, .val (p0.v)), (1, .val (p1.v)), (5, .osl 11 0 (Int.toNat (p0.len : Int)) (Int.toNat (p0.len : Int))), (6, .val (.int .u32 x.t6)), (13, .val (.int .i64 (p0.len : Int))), (14, .val (.int .i64 x.t14))], own := spO 41 0 [(11, ⟨142, .dyn x.o11⟩)] }) I_nat_sub_0 mu_nat_sub_0 (.seq (.reg [⟨15, 0, false⟩]) (.seq (.cond .leaf .leaf) (.seq (.block (.seq (.reg [⟨16, 2, false⟩, ⟨7, 2, false⟩]) (.seq (.reg [⟨8, 2, false⟩]) (.seq (.seq (.reg [⟨17, 2, false⟩, ⟨18, 2, false⟩, ⟨19, 0, false⟩, ⟨20, 0, false⟩]) (.cond (.reg [⟨21, 2, false⟩, ⟨22, 2, false⟩, ⟨23, 7, false⟩, ⟨24, 5, false⟩, ⟨8, 2, false⟩]) .leaf)) (.reg [⟨26, 2, false⟩, ⟨27, 2, false⟩, ⟨28, 2, false⟩, ⟨29, 2, false⟩, ⟨30, 7, false⟩, ⟨31, 5, false⟩, ⟨32, 2, false⟩, ⟨33, 2, false⟩, ⟨34, 10, false⟩, ⟨25, 2, false⟩, ⟨35, 0, false⟩, ⟨36, 0, false⟩, ⟨37, 7, false⟩, ⟨11, 6, false⟩, ⟨6, 2, false⟩]))))) (.reg [⟨38, 0, false⟩, ⟨14, 2, false⟩]))))))) (.seq (.pub 11 (.reg [⟨39, 2, false⟩, ⟨40, 10, false⟩, ⟨4, 2, false⟩])) .leaf)))))
    (Eq.mpr (by kernel_rfl) (show ((0 : Int) ≤ (p0.len : Int) ∧ ((p0.len : Int) : Int) ≤ (p0.len : Int) ∧ (4 : Int) * (p0.len : Int) ≤ 281474976710656 ∧ ((p0.len : Int) : Int) ≤ 9223372036854775807) ∧
    (∃ x1 : L_nat_sub_0, ((SV.val (p0.v) = SV.val (p0.v) ∧ SV.val (p1.v) = SV.val (p1.v) ∧ SV.osl 11 0 (Int.toNat (p0.len : Int)) (Int.toNat (p0.len : Int)) = SV.osl 11 0 (Int.toNat (p0.len : Int)) (Int.toNat (p0.len : Int)) ∧ SV.val (.int .u32 0) = SV.val (.int .u32 x1.t6) ∧ SV.val (.int .i64 (p0.len : Int)) = SV.val (.int .i64 (p0.len : Int)) ∧ SV.val (.int .i64 0) = SV.val (.int .i64 x1.t14) ∧ True) ∧ ((some (⟨142, .dyn ((List.replicate (Int.toNat (p0.len : Int)) [Value.int .u32 0]).flatten)⟩) : Option OB) = some (⟨142, .dyn x1.o11⟩) ∧ True)) ∧ I_nat_sub_0 () x1 V) ∧
    (∀ (x2 : L_nat_sub_0) (V1 : View), View.le V V1 → I_nat_sub_0 () x2 V1 →
      ((decide ((x2.t14 : Int) < (p0.len : Int))) = true →
        ((decide ((x2.t14 : Int) < (p1.len : Int))) = true →
        ((0 : Int) ≤ x2.t14 ∧ (x2.t14 : Int) < (p1.len : Nat) ∧ Option.isSome p1.a = true) ∧
        ∃ x3 : Int, View.load V1 (Option.map (fun q => Addr.add q (Int.toNat x2.t14 * 1)) p1.a) = some (.int .u32 x3) ∧
        ((0 : Int) ≤ x2.t14 ∧ (x2.t14 : Int) < (p0.len : Nat) ∧ Option.isSome p0.a = true) ∧
      ∃ x4 : Int, View.load V1 (Option.map (fun q => Addr.add q (Int.toNat x2.t14 * 1)) p0.a) = some (.int .u32 x4) ∧
      CallV Try.prog 168 #[.int .u32 x4, .int .u32 x3, .int .u32 x2.t6] V1 fun v V2 => ∃ (r1 : Int) (r2 : Int), v = .tuple #[.int .u32 r1, .int .u32 r2] ∧ -- math/bits.Sub32
      ((0 : Int) ≤ x2.t14 ∧ (x2.t14 : Int) < (Int.toNat (p0.len : Int) : Nat)) ∧
      0 + Int.toNat x2.t14 * 1 + 1 ≤ List.length x2.o11 ∧
      ∃ x5 : L_nat_sub_0, ((SV.val (p0.v) = SV.val (p0.v) ∧ SV.val (p1.v) = SV.val (p1.v) ∧ SV.osl 11 0 (Int.toNat (p0.len : Int)) (Int.toNat (p0.len : Int)) = SV.osl 11 0 (Int.toNat (p0.len : Int)) (Int.toNat (p0.len : Int)) ∧ SV.val (.int .u32 r2) = SV.val (.int .u32 x5.t6) ∧ SV.val (.int .i64 (p0.len : Int)) = SV.val (.int .i64 (p0.len : Int)) ∧ SV.val (.int .i64 (IntKind.i64.wrap (x2.t14 + 1))) = SV.val (.int .i64 x5.t14) ∧ True) ∧ ((some (⟨142, .dyn (List.set x2.o11 (0 + Int.toNat x2.t14 * 1) (.int .u32 r1))⟩) : Option OB) = some (⟨142, .dyn x5.o11⟩) ∧ True)) ∧ I_nat_sub_0 () x5 V2 ∧ mu_nat_sub_0 () x5 V2 < mu_nat_sub_0 () x2 V1) ∧
      ((decide ((x2.t14 : Int) < (p1.len : Int))) = false →
        ((0 : Int) ≤ x2.t14 ∧ (x2.t14 : Int) < (p0.len : Nat) ∧ Option.isSome p0.a = true) ∧
      ∃ x6 : Int, View.load V1 (Option.map (fun q => Addr.add q (Int.toNat x2.t14 * 1)) p0.a) = some (.int .u32 x6) ∧
      CallV Try.prog 168 #[.int .u32 x6, .int .u32 0, .int .u32 x2.t6] V1 fun v V3 => ∃ (r3 : Int) (r4 : Int), v = .tuple #[.int .u32 r3, .int .u32 r4] ∧ -- math/bits.Sub32
      ((0 : Int) ≤ x2.t14 ∧ (x2.t14 : Int) < (Int.toNat (p0.len : Int) : Nat)) ∧
      0 + Int.toNat x2.t14 * 1 + 1 ≤ List.length x2.o11 ∧
      ∃ x7 : L_nat_sub_0, ((SV.val (p0.v) = SV.val (p0.v) ∧ SV.val (p1.v) = SV.val (p1.v) ∧ SV.osl 11 0 (Int.toNat (p0.len : Int)) (Int.toNat (p0.len : Int)) = SV.osl 11 0 (Int.toNat (p0.len : Int)) (Int.toNat (p0.len : Int)) ∧ SV.val (.int .u32 r4) = SV.val (.int .u32 x7.t6) ∧ SV.val (.int .i64 (p0.len : Int)) = SV.val (.int .i64 (p0.len : Int)) ∧ SV.val (.int .i64 (IntKind.i64.wrap (x2.t14 + 1))) = SV.val (.int .i64 x7.t14) ∧ True) ∧ ((some (⟨142, .dyn (List.set x2.o11 (0 + Int.toNat x2.t14 * 1) (.int .u32 r3))⟩) : Option OB) = some (⟨142, .dyn x7.o11⟩) ∧ True)) ∧ I_nat_sub_0 () x7 V3 ∧ mu_nat_sub_0 () x7 V3 < mu_nat_sub_0 () x2 V1)) ∧
      ((decide ((x2.t14 : Int) < (p0.len : Int))) = false →
        ∀ (b1 : Nat) (V4 : View), View.le V1 V4 → V4 b1 = some (List.toArray x2.o11) →
    CallV Try.prog 147 #[(Sl.mk (some (Addr.mk b1 0 none)) (Int.toNat (p0.len : Int)) (Int.toNat (p0.len : Int))).v] V4 fun v V5 => ∃ r5 : Sl, v = r5.v ∧ -- num.trim
    R (r5.v) V5)) from ⟨h.1, ⟨⟨(L_nat_sub_0.mk 0 0 ((List.replicate (Int.toNat (p0.len : Int)) [Value.int .u32 0]).flatten)), ⟨⟨rfl, rfl, rfl, rfl, rfl, rfl, trivial⟩, ⟨rfl, trivial⟩⟩, h.2.1⟩, fun x2 V1 h17 h18 => ⟨fun h16 => ⟨fun h11 => ⟨(((h.2.2 x2 V1 h17 h18).1 h16).1 h11).1, (match (((h.2.2 x2 V1 h17 h18).1 h16).1 h11).2 with | ⟨x3, h6, h5⟩ => ⟨x3, h6, ⟨h5.1, (match h5.2 with | ⟨x4, h4, h3⟩ => ⟨x4, h4, (CallV.mono h3 (fun _ _ _ ⟨r1, r2, h2, h1⟩ => ⟨r1, r2, h2, ⟨h1.1, ⟨h1.2.1, ⟨(L_nat_sub_0.mk r2 (IntKind.i64.wrap (x2.t14 + 1)) (List.set x2.o11 (0 + Int.toNat x2.t14 * 1) (.int .u32 r1))), ⟨⟨rfl, rfl, rfl, rfl, rfl, rfl, trivial⟩, ⟨rfl, trivial⟩⟩, h1.2.2.1, h1.2.2.2⟩⟩⟩⟩))⟩)⟩⟩)⟩, fun h11 => ⟨(((h.2.2 x2 V1 h17 h18).1 h16).2 h11).1, (match (((h.2.2 x2 V1 h17 h18).1 h16).2 h11).2 with | ⟨x6, h10, h9⟩ => ⟨x6, h10, (CallV.mono h9 (fun _ _ _ ⟨r3, r4, h8, h7⟩ => ⟨r3, r4, h8, ⟨h7.1, ⟨h7.2.1, ⟨(L_nat_sub_0.mk r4 (IntKind.i64.wrap (x2.t14 + 1)) (List.set x2.o11 (0 + Int.toNat x2.t14 * 1) (.int .u32 r3))), ⟨⟨rfl, rfl, rfl, rfl, rfl, rfl, trivial⟩, ⟨rfl, trivial⟩⟩, h7.2.2.1, h7.2.2.2⟩⟩⟩⟩))⟩)⟩⟩, fun h16 => (fun b1 V4 h14 h15 => (CallV.mono (((h.2.2 x2 V1 h17 h18).2 h16) b1 V4 h14 h15) (fun _ _ _ ⟨r5, h13, h12⟩ => ⟨r5, h13, h12⟩)))⟩⟩⟩))

structure L_nat_mul_0 where
  u : Unit
structure L_nat_mul_1 where
  t27 : Int
  o24 : List Value
structure L_nat_mul_2 where
  t8 : Int
  t34 : Int
  o24 : List Value
structure C_nat_mul_2 where
  t6 : Int
  t7 : Int
  t27 : Int
/-- (waveport/num.nat).mul -/
theorem nat_mul_vc (p0 : Sl) (p1 : Sl) (V : View) (R : Value → View → Prop) (I_nat_mul_0 : Unit → L_nat_mul_0 → View → Prop) (I_nat_mul_1 : Unit → L_nat_mul_1 → View → Prop) (mu_nat_mul_1 : Unit → L_nat_mul_1 → View → Nat) (I_nat_mul_2 : C_nat_mul_2 → L_nat_mul_2 → View → Prop) (mu_nat_mul_2 : C_nat_mul_2 → L_nat_mul_2 → View → Nat)
  (h :
    (((((p0.len : Int) : Int) == 0) = true →
      (true = true →
        R ((Sl.mk none 0 0).v) V) ∧
      (true = false →
        I_nat_mul_0 () (L_nat_mul_0.mk ()) V)) ∧
      ((((p0.len : Int) : Int) == 0) = false →
      ((((p1.len : Int) : Int) == 0) = true →
        R ((Sl.mk none 0 0).v) V) ∧
      ((((p1.len : Int) : Int) == 0) = false →
        I_nat_mul_0 () (L_nat_mul_0.mk ()) V))) ∧
    (∀ (x1 : L_nat_mul_0) (V1 : View), View.le V V1 → I_nat_mul_0 () x1 V1 →
      ((0 : Int) ≤ (IntKind.i64.wrap ((p0.len : Int) + (p1.len : Int))) ∧ ((IntKind.i64.wrap ((p0.len : Int) + (p1.len : Int))) : Int) ≤ (IntKind.i64.wrap ((p0.len : Int) + (p1.len : Int))) ∧ (4 : Int) * (IntKind.i64.wrap ((p0.len : Int) + (p1.len : Int))) ≤ 281474976710656 ∧ ((IntKind.i64.wrap ((p0.len : Int) + (p1.len : Int))) : Int) ≤ 9223372036854775807) ∧
      I_nat_mul_1 () (L_nat_mul_1.mk 0 ((List.replicate (Int.toNat (IntKind.i64.wrap ((p0.len : Int) + (p1.len : Int)))) [Value.int .u32 0]).flatten)) V1 ∧
      (∀ (x5 : L_nat_mul_1) (V2 : View), View.le V1 V2 → I_nat_mul_1 () x5 V2 →
        ((decide ((x5.t27 : Int) < (p0.len : Int))) = true →
          ((0 : Int) ≤ x5.t27 ∧ (x5.t27 : Int) < (p0.len : Nat) ∧ Option.isSome p0.a = true) ∧
        ∃ x6 : Int, View.load V2 (Option.map (fun q => Addr.add q (Int.toNat x5.t27 * 1)) p0.a) = some (.int .u32 x6) ∧
        I_nat_mul_2 (C_nat_mul_2.mk x5.t27 x6 x5.t27) (L_nat_mul_2.mk 0 0 x5.o24) V2 ∧
        (∀ (x8 : L_nat_mul_2) (V3 : View), View.le V2 V3 → I_nat_mul_2 (C_nat_mul_2.mk x5.t27 x6 x5.t27) x8 V3 →
          ((decide ((x8.t34 : Int) < (p1.len : Int))) = true →
            ((0 : Int) ≤ x8.t34 ∧ (x8.t34 : Int) < (p1.len : Nat) ∧ Option.isSome p1.a = true) ∧
          ∃ x9 : Int, View.load V3 (Option.map (fun q => Addr.add q (Int.toNat x8.t34 * 1)) p1.a) = some (.int .u32 x9) ∧
          ((0 : Int) ≤ (IntKind.i64.wrap (x5.t27 + x8.t34)) ∧ ((IntKind.i64.wrap (x5.t27 + x8.t34)) : Int) < (Int.toNat (IntKind.i64.wrap ((p0.len : Int) + (p1.len : Int))) : Nat)) ∧
          ∃ x10 : Int, x8.o24[0 + Int.toNat (IntKind.i64.wrap (x5.t27 + x8.t34)) * 1]? = some (.int .u32 x10) ∧
          ((0 : Int) ≤ (IntKind.i64.wrap (x5.t27 + x8.t34)) ∧ ((IntKind.i64.wrap (x5.t27 + x8.t34)) : Int) < (Int.toNat (IntKind.i64.wrap ((p0.len : Int) + (p1.len : Int))) : Nat)) ∧
          0 + Int.toNat (IntKind.i64.wrap (x5.t27 + x8.t34)) * 1 + 1 ≤ List.length x8.o24 ∧
          I_nat_mul_2 (C_nat_mul_2.mk x5.t27 x6 x5.t27) (L_nat_mul_2.mk (Int.fdiv (IntKind.u64.wrap (x8.t8 + (IntKind.u64.wrap ((IntKind.u64.wrap ((IntKind.u64.wrap x6) * (IntKind.u64.wrap x9))) + (IntKind.u64.wrap x10))))) (2 ^ (min (Int.toNat 32) (IntKind.u64.bits)))) (IntKind.i64.wrap (x8.t34 + 1)) (List.set x8.o24 (0 + Int.toNat (IntKind.i64.wrap (x5.t27 + x8.t34)) * 1) (.int .u32 (IntKind.u32.wrap (IntKind.u64.wrap (x8.t8 + (IntKind.u64.wrap ((IntKind.u64.wrap ((IntKind.u64.wrap x6) * (IntKind.u64.wrap x9))) + (IntKind.u64.wrap x10))))))))) V3 ∧ mu_nat_mul_2 (C_nat_mul_2.mk x5.t27 x6 x5.t27) (L_nat_mul_2.mk (Int.fdiv (IntKind.u64.wrap (x8.t8 + (IntKind.u64.wrap ((IntKind.u64.wrap ((IntKind.u64.wrap x6) * (IntKind.u64.wrap x9))) + (IntKind.u64.wrap x10))))) (2 ^ (min (Int.toNat 32) (IntKind.u64.bits)))) (IntKind.i64.wrap (x8.t34 + 1)) (List.set x8.o24 (0 + Int.toNat (IntKind.i64.wrap (x5.t27 + x8.t34)) * 1) (.int .u32 (IntKind.u32.wrap (IntKind.u64.wrap (x8.t8 + (IntKind.u64.wrap ((IntKind.u64.wrap ((IntKind.u64.wrap x6) * (IntKind.u64.wrap x9))) + (IntKind.u64.wrap x10))))))))) V3 < mu_nat_mul_2 (C_nat_mul_2.mk x5.t27 x6 x5.t27) x8 V3) ∧
          ((decide ((x8.t34 : Int) < (p1.len : Int))) = false →
            ((0 : Int) ≤ (IntKind.i64.wrap (x5.t27 + (p1.len : Int))) ∧ ((IntKind.i64.wrap (x5.t27 + (p1.len : Int))) : Int) < (Int.toNat (IntKind.i64.wrap ((p0.len : Int) + (p1.len : Int))) : Nat)) ∧
        0 + Int.toNat (IntKind.i64.wrap (x5.t27 + (p1.len : Int))) * 1 + 1 ≤ List.length x8.o24 ∧
        I_nat_mul_1 () (L_nat_mul_1.mk (IntKind.i64.wrap (x5.t27 + 1)) (List.set x8.o24 (0 + Int.toNat (IntKind.i64.wrap (x5.t27 + (p1.len : Int))) * 1) (.int .u32 (IntKind.u32.wrap x8.t8)))) V3 ∧ mu_nat_mul_1 () (L_nat_mul_1.mk (IntKind.i64.wrap (x5.t27 + 1)) (List.set x8.o24 (0 + Int.toNat (IntKind.i64.wrap (x5.t27 + (p1.len : Int))) * 1) (.int .u32 (IntKind.u32.wrap x8.t8)))) V3 < mu_nat_mul_1 () x5 V2))) ∧
        ((decide ((x5.t27 : Int) < (p0.len : Int))) = false →
          ∀ (b1 : Nat) (V4 : View), View.le V2 V4 → V4 b1 = some (List.toArray x5.o24) →
      CallV Try.prog 147 #[(Sl.mk (some (Addr.mk b1 0 none)) (Int.toNat (IntKind.i64.wrap ((p0.len : Int) + (p1.len : Int)))) (Int.toNat (IntKind.i64.wrap ((p0.len : Int) + (p1.len : Int))))).v] V4 fun v V5 => ∃ r1 : Sl, v = r1.v ∧ -- num.trim
      R (r1.v) V5)))) :
  CallV Try.prog 106 #[p0.v, p1.v] V R :=
  calls_of_vc (Shp := Shp) hmixed Try.func106 (c := Try.f106.body.getD .skip) (args := [p0.v, p1.v]) (by kernel_rfl)
    (.seq (.reg [⟨4, 2, false⟩]) (.cut Unit L_nat_mul_0 (fun _ => ()) (fun c x => { tm := spT 75 0 [(0, .val (p0.v)), (1, .val (p1.v))], own := spO 75 0 [] }) I_nat_mul_0 (.seq (.reg [⟨11, 2, false⟩, ⟨12, 0, false⟩, ⟨13, 0, false⟩, ⟨14, 2, true⟩, ⟨15, 2, false⟩, ⟨16, 0, false⟩, ⟨17, 0, false⟩, ⟨18, 2, false⟩]) (.cond (.seq (.reg [⟨4, 2, false⟩]) .leaf) .leaf)) (.seq (.reg [⟨19, 2, false⟩, ⟨20, 0, false⟩, ⟨21, 2, false⟩, ⟨22, 0, false⟩, ⟨23, 0, false⟩, ⟨24, 3, false⟩, ⟨5, 2, false⟩]) (.seq (.seq (.reg [⟨25, 2, false⟩, ⟨26, 0, false⟩, ⟨27, 2, false⟩]) (.block (.loop Unit L_nat_mul_1 (fun _ => ()) (fun c x => { tm := spT 75 0 [(1, .val (p1.v)), (5, .osl 24 0 (Int.toNat (IntKind.i64.wrap ((p0.len : Int) + (p1.len : Int)))) (Int.toNat (IntKind.i64.wrap ((p0.len : Int) + (p1.len : Int))))), (25, .val (p0.v)), (26, .val (.int .i64 (p0.len : Int))), (27, .val (.int .i64 x.t27))], own := spO 75 0 [(24, ⟨142, .dyn x.o24⟩)] }) I_nat_mul_1 mu_nat_mul_1 (.seq (.reg [⟨28, 0, false⟩]) (.seq (.cond .leaf .leaf) (.seq (.block (.seq (.reg [⟨29, 2, false⟩, ⟨30, 7, false⟩, ⟨31, 5, false⟩, ⟨6, 2, false⟩, ⟨7, 2, false⟩]) (.seq (.reg [⟨8, 2, false⟩]) (.seq (.seq (.reg [⟨32, 2, false⟩, ⟨33, 0, false⟩, ⟨34, 2, false⟩]) (.block (.loop C_nat_mul_2 L_nat_mul_2 (fun σ => C_nat_mul_2.mk (gInt (gTm σ 6)) (gInt (gTm σ 7)) (gInt (gTm σ 27))) (fun c x => { tm := spT 75 0 [(1, .val (p1.v)), (5, .osl 24 0 (Int.toNat (IntKind.i64.wrap ((p0.len : Int) + (p1.len : Int)))) (Int.toNat (IntKind.i64.wrap ((p0.len : Int) + (p1.len : Int))))), (6, .val (.int .i64 c.t6)), (7, .val (.int .u32 c.t7)), (8, .val (.int .u64 x.t8)), (25, .val (p0.v)), (26, .val (.int .i64 (p0.len : Int))), (27, .val (.int .i64 c.t27)), (32, .val (p1.v)), (33, .val (.int .i64 (p1.len : Int))), (34, .val (.int .i64 x.t34))], own := spO 75 0 [(24, ⟨142, .dyn x.o24⟩)] }) I_nat_mul_2 mu_nat_mul_2 (.seq (.reg [⟨35, 0, false⟩]) (.seq (.cond .leaf .leaf) (.seq (.block (.seq (.reg [⟨36, 2, false⟩, ⟨37, 7, false⟩, ⟨38, 5, false⟩, ⟨9, 2, false⟩, ⟨10, 2, false⟩]) (.seq (.reg [⟨39, 2, false⟩, ⟨40, 2, false⟩, ⟨41, 0, false⟩, ⟨42, 2, false⟩, ⟨43, 0, false⟩, ⟨44, 0, false⟩, ⟨45, 2, false⟩, ⟨46, 2, false⟩, ⟨47, 2, false⟩, ⟨48, 0, false⟩, ⟨49, 7, false⟩, ⟨24, 4, false⟩, ⟨51, 0, false⟩, ⟨52, 0, false⟩, ⟨53, 0, false⟩, ⟨8, 2, false⟩]) (.seq (.reg [⟨54, 2, false⟩, ⟨55, 2, false⟩, ⟨56, 2, false⟩, ⟨57, 0, false⟩, ⟨58, 2, false⟩, ⟨59, 0, false⟩, ⟨60, 7, false⟩, ⟨24, 6, false⟩]) (.reg [⟨61, 2, false⟩, ⟨62, 0, false⟩, ⟨8, 2, false⟩]))))) (.reg [⟨63, 0, false⟩, ⟨34, 2, false⟩]))))))) (.reg [⟨64, 2, false⟩, ⟨65, 2, false⟩, ⟨66, 2, false⟩, ⟨67, 0, false⟩, ⟨68, 0, false⟩, ⟨69, 2, false⟩, ⟨70, 0, false⟩, ⟨71, 7, false⟩, ⟨24, 6, false⟩]))))) (.reg [⟨72, 0, false⟩, ⟨27, 2, false⟩]))))))) (.seq (.pub 24 (.reg [⟨73, 2, false⟩, ⟨74, 10, false⟩, ⟨4, 2, false⟩])) .leaf)))))
    (Eq.mpr (by kernel_rfl) (show (((((p0.len : Int) : Int) == 0) = true →
      (true = true →
        R ((Sl.mk none 0 0).v) V) ∧
      (true = false →
        ∃ x2 : L_nat_mul_0, ((SV.val (p0.v) = SV.val (p0.v) ∧ SV.val (p1.v) = SV.val (p1.v) ∧ True) ∧ (True)) ∧ I_nat_mul_0 () x2 V)) ∧
      ((((p0.len : Int) : Int) == 0) = false →
      ((((p1.len : Int) : Int) == 0) = true →
        R ((Sl.mk none 0 0).v) V) ∧
      ((((p1.len : Int) : Int) == 0) = false →
        ∃ x3 : L_nat_mul_0, ((SV.val (p0.v) = SV.val (p0.v) ∧ SV.val (p1.v) = SV.val (p1.v) ∧ True) ∧ (True)) ∧ I_nat_mul_0 () x3 V))) ∧
    (∀ (x1 : L_nat_mul_0) (V1 : View), View.le V V1 → I_nat_mul_0 () x1 V1 →
      ((0 : Int) ≤ (IntKind.i64.wrap ((p0.len : Int) + (p1.len : Int))) ∧ ((IntKind.i64.wrap ((p0.len : Int) + (p1.len : Int))) : Int) ≤ (IntKind.i64.wrap ((p0.len : Int) + (p1.len : Int))) ∧ (4 : Int) * (IntKind.i64.wrap ((p0.len : Int) + (p1.len : Int))) ≤ 281474976710656 ∧ ((IntKind.i64.wrap ((p0.len : Int) + (p1.len : Int))) : Int) ≤ 9223372036854775807) ∧
      (∃ x4 : L_nat_mul_1, ((SV.val (p1.v) = SV.val (p1.v) ∧ SV.osl 24 0 (Int.toNat (IntKind.i64.wrap ((p0.len : Int) + (p1.len : Int)))) (Int.toNat (IntKind.i64.wrap ((p0.len : Int) + (p1.len : Int)))) = SV.osl 24 0 (Int.toNat (IntKind.i64.wrap ((p0.len : Int) + (p1.len : Int)))) (Int.toNat (IntKind.i64.wrap ((p0.len : Int) + (p1.len : Int)))) ∧ SV.val (p0.v) = SV.val (p0.v) ∧ SV.val (.int .i64 (p0.len : Int)) = SV.val (.int .i64 (p0.len : Int)) ∧ SV.val (.int .i64 0) = SV.val (.int .i64 x4.t27) ∧ True) ∧ ((some (⟨142, .dyn ((List.replicate (Int.toNat (IntKind.i64.wrap ((p0.len : Int) + (p1.len : Int)))) [Value.int .u32 0]).flatten)⟩) : Option OB) = some (⟨142, .dyn x4.o24⟩) ∧ True)) ∧ I_nat_mul_1 () x4 V1) ∧
      (∀ (x5 : L_nat_mul_1) (V2 : View), View.le V1 V2 → I_nat_mul_1 () x5 V2 →
        ((decide ((x5.t27 : Int) < (p0.len : Int))) = true →
          ((0 : Int) ≤ x5.t27 ∧ (x5.t27 : Int) < (p0.len : Nat) ∧ Option.isSome p0.a = true) ∧
        ∃ x6 : Int, View.load V2 (Option.map (fun q => Addr.add q (Int.toNat x5.t27 * 1)) p0.a) = some (.int .u32 x6) ∧
        (∃ x7 : L_nat_mul_2, ((SV.val (p1.v) = SV.val (p1.v) ∧ SV.osl 24 0 (Int.toNat (IntKind.i64.wrap ((p0.len : Int) + (p1.len : Int)))) (Int.toNat (IntKind.i64.wrap ((p0.len : Int) + (p1.len : Int)))) = SV.osl 24 0 (Int.toNat (IntKind.i64.wrap ((p0.len : Int) + (p1.len : Int)))) (Int.toNat (IntKind.i64.wrap ((p0.len : Int) + (p1.len : Int)))) ∧ SV.val (.int .i64 x5.t27) = SV.val (.int .i64 x5.t27) ∧ SV.val (.int .u32 x6) = SV.val (.int .u32 x6) ∧ SV.val (.int .u64 0) = SV.val (.int .u64 x7.t8) ∧ SV.val (p0.v) = SV.val (p0.v) ∧ SV.val (.int .i64 (p0.len : Int)) = SV.val (.int .i64 (p0.len : Int)) ∧ SV.val (.int .i64 x5.t27) = SV.val (.int .i64 x5.t27) ∧ SV.val (p1.v) = SV.val (p1.v) ∧ SV.val (.int .i64 (p1.len : Int)) = SV.val (.int .i64 (p1.len : Int)) ∧ SV.val (.int .i64 0) = SV.val (.int .i64 x7.t34) ∧ True) ∧ ((some (⟨142, .dyn x5.o24⟩) : Option OB) = some (⟨142, .dyn x7.o24⟩) ∧ True)) ∧ I_nat_mul_2 (C_nat_mul_2.mk x5.t27 x6 x5.t27) x7 V2) ∧
        (∀ (x8 : L_nat_mul_2) (V3 : View), View.le V2 V3 → I_nat_mul_2 (C_nat_mul_2.mk x5.t27 x6 x5.t27) x8 V3 →
          ((decide ((x8.t34 : Int) < (p1.len : Int))) = true →
            ((0 : Int) ≤ x8.t34 ∧ (x8.t34 : Int) < (p1.len : Nat) ∧ Option.isSome p1.a = true) ∧
          ∃ x9 : Int, View.load V3 (Option.map (fun q => Addr.add q (Int.toNat x8.t34 * 1)) p1.a) = some (.int .u32 x9) ∧
          ((0 : Int) ≤ (IntKind.i64.wrap (x5.t27 + x8.t34)) ∧ ((IntKind.i64.wrap (x5.t27 + x8.t34)) : Int) < (Int.toNat (IntKind.i64.wrap ((p0.len : Int) + (p1.len : Int))) : Nat)) ∧
          ∃ x10 : Int, x8.o24[0 + Int.toNat (IntKind.i64.wrap (x5.t27 + x8.t34)) * 1]? = some (.int .u32 x10) ∧
          ((0 : Int) ≤ (IntKind.i64.wrap (x5.t27 + x8.t34)) ∧ ((IntKind.i64.wrap (x5.t27 + x8.t34)) : Int) < (Int.toNat (IntKind.i64.wrap ((p0.len : Int) + (p1.len : Int))) : Nat)) ∧
          0 + Int.toNat (IntKind.i64.wrap (x5.t27 + x8.t34)) * 1 + 1 ≤ List.length x8.o24 ∧
          ∃ x11 : L_nat_mul_2, ((SV.val (p1.v) = SV.val (p1.v) ∧ SV.osl 24 0 (Int.toNat (IntKind.i64.wrap ((p0.len : Int) + (p1.len : Int)))) (Int.toNat (IntKind.i64.wrap ((p0.len : Int) + (p1.len : Int)))) = SV.osl 24 0 (Int.toNat (IntKind.i64.wrap ((p0.len : Int) + (p1.len : Int)))) (Int.toNat (IntKind.i64.wrap ((p0.len : Int) + (p1.len : Int)))) ∧ SV.val (.int .i64 x5.t27) = SV.val (.int .i64 x5.t27) ∧ SV.val (.int .u32 x6) = SV.val (.int .u32 x6) ∧ SV.val (.int .u64 (Int.fdiv (IntKind.u64.wrap (x8.t8 + (IntKind.u64.wrap ((IntKind.u64.wrap ((IntKind.u64.wrap x6) * (IntKind.u64.wrap x9))) + (IntKind.u64.wrap x10))))) (2 ^ (min (Int.toNat 32) (IntKind.u64.bits))))) = SV.val (.int .u64 x11.t8) ∧ SV.val (p0.v) = SV.val (p0.v) ∧ SV.val (.int .i64 (p0.len : Int)) = SV.val (.int .i64 (p0.len : Int)) ∧ SV.val (.int .i64 x5.t27) = SV.val (.int .i64 x5.t27) ∧ SV.val (p1.v) = SV.val (p1.v) ∧ SV.val (.int .i64 (p1.len : Int)) = SV.val (.int .i64 (p1.len : Int)) ∧ SV.val (.int .i64 (IntKind.i64.wrap (x8.t34 + 1))) = SV.val (.int .i64 x11.t34) ∧ True) ∧ ((some (⟨142, .dyn (List.set x8.o24 (0 + Int.toNat (IntKind.i64.wrap (x5.t27 + x8.t34)) * 1) (.int .u32 (IntKind.u32.wrap (IntKind.u64.wrap (x8.t8 + (IntKind.u64.wrap ((IntKind.u64.wrap ((IntKind.u64.wrap x6) * (IntKind.u64.wrap x9))) + (IntKind.u64.wrap x10))))))))⟩) : Option OB) = some (⟨142, .dyn x11.o24⟩) ∧ True)) ∧ I_nat_mul_2 (C_nat_mul_2.mk x5.t27 x6 x5.t27) x11 V3 ∧ mu_nat_mul_2 (C_nat_mul_2.mk x5.t27 x6 x5.t27) x11 V3 < mu_nat_mul_2 (C_nat_mul_2.mk x5.t27 x6 x5.t27) x8 V3) ∧
          ((decide ((x8.t34 : Int) < (p1.len : Int))) = false →
            ((0 : Int) ≤ (IntKind.i64.wrap (x5.t27 + (p1.len : Int))) ∧ ((IntKind.i64.wrap (x5.t27 + (p1.len : Int))) : Int) < (Int.toNat (IntKind.i64.wrap ((p0.len : Int) + (p1.len : Int))) : Nat)) ∧
        0 + Int.toNat (IntKind.i64.wrap (x5.t27 + (p1.len : Int))) * 1 + 1 ≤ List.length x8.o24 ∧
        ∃ x12 : L_nat_mul_1, ((SV.val (p1.v) = SV.val (p1.v) ∧ SV.osl 24 0 (Int.toNat (IntKind.i64.wrap ((p0.len : Int) + (p1.len : Int)))) (Int.toNat (IntKind.i64.wrap ((p0.len : Int) + (p1.len : Int)))) = SV.osl 24 0 (Int.toNat (IntKind.i64.wrap ((p0.len : Int) + (p1.len : Int)))) (Int.toNat (IntKind.i64.wrap ((p0.len : Int) + (p1.len : Int)))) ∧ SV.val (p0.v) = SV.val (p0.v) ∧ SV.val (.int .i64 (p0.len : Int)) = SV.val (.int .i64 (p0.len : Int)) ∧ SV.val (.int .i64 (IntKind.i64.wrap (x5.t27 + 1))) = SV.val (.int .i64 x12.t27) ∧ True) ∧ ((some (⟨142, .dyn (List.set x8.o24 (0 + Int.toNat (IntKind.i64.wrap (x5.t27 + (p1.len : Int))) * 1) (.int .u32 (IntKind.u32.wrap x8.t8)))⟩) : Option OB) = some (⟨142, .dyn x12.o24⟩) ∧ True)) ∧ I_nat_mul_1 () x12 V3 ∧ mu_nat_mul_1 () x12 V3 < mu_nat_mul_1 () x5 V2))) ∧
        ((decide ((x5.t27 : Int) < (p0.len : Int))) = false →
          ∀ (b1 : Nat) (V4 : View), View.le V2 V4 → V4 b1 = some (List.toArray x5.o24) →
      CallV Try.prog 147 #[(Sl.mk (some (Addr.mk b1 0 none)) (Int.toNat (IntKind.i64.wrap ((p0.len : Int) + (p1.len : Int)))) (Int.toNat (IntKind.i64.wrap ((p0.len : Int) + (p1.len : Int))))).v] V4 fun v V5 => ∃ r1 : Sl, v = r1.v ∧ -- num.trim
      R (r1.v) V5))) from ⟨⟨fun h3 => ⟨fun h1 => ((h.1.1 h3).1 h1), fun h1 => ⟨(L_nat_mul_0.mk ()), ⟨⟨rfl, rfl, trivial⟩, trivial⟩, ((h.1.1 h3).2 h1)⟩⟩, fun h3 => ⟨fun h2 => ((h.1.2 h3).1 h2), fun h2 => ⟨(L_nat_mul_0.mk ()), ⟨⟨rfl, rfl, trivial⟩, trivial⟩, ((h.1.2 h3).2 h2)⟩⟩⟩, fun x1 V1 h20 h21 => ⟨(h.2 x1 V1 h20 h21).1, ⟨⟨(L_nat_mul_1.mk 0 ((List.replicate (Int.toNat (IntKind.i64.wrap ((p0.len : Int) + (p1.len : Int)))) [Value.int .u32 0]).flatten)), ⟨⟨rfl, rfl, rfl, rfl, rfl, trivial⟩, ⟨rfl, trivial⟩⟩, (h.2 x1 V1 h20 h21).2.1⟩, fun x5 V2 h18 h19 => ⟨fun h17 => ⟨(((h.2 x1 V1 h20 h21).2.2 x5 V2 h18 h19).1 h17).1, (match (((h.2 x1 V1 h20 h21).2.2 x5 V2 h18 h19).1 h17).2 with | ⟨x6, h12, h11⟩ => ⟨x6, h12, ⟨⟨(L_nat_mul_2.mk 0 0 x5.o24), ⟨⟨rfl, rfl, rfl, rfl, rfl, rfl, rfl, rfl, rfl, rfl, rfl, trivial⟩, ⟨rfl, trivial⟩⟩, h11.1⟩, fun x8 V3 h9 h10 => ⟨fun h8 => ⟨((h11.2 x8 V3 h9 h10).1 h8).1, (match ((h11.2 x8 V3 h9 h10).1 h8).2 with | ⟨x9, h7, h6⟩ => ⟨x9, h7, ⟨h6.1, (match h6.2 with | ⟨x10, h5, h4⟩ => ⟨x10, h5, ⟨h4.1, ⟨h4.2.1, ⟨(L_nat_mul_2.mk (Int.fdiv (IntKind.u64.wrap (x8.t8 + (IntKind.u64.wrap ((IntKind.u64.wrap ((IntKind.u64.wrap x6) * (IntKind.u64.wrap x9))) + (IntKind.u64.wrap x10))))) (2 ^ (min (Int.toNat 32) (IntKind.u64.bits)))) (IntKind.i64.wrap (x8.t34 + 1)) (List.set x8.o24 (0 + Int.toNat (IntKind.i64.wrap (x5.t27 + x8.t34)) * 1) (.int .u32 (IntKind.u32.wrap (IntKind.u64.wrap (x8.t8 + (IntKind.u64.wrap ((IntKind.u64.wrap ((IntKind.u64.wrap x6) * (IntKind.u64.wrap x9))) + (IntKind.u64.wrap x10))))))))), ⟨⟨rfl, rfl, rfl, rfl, rfl, rfl, rfl, rfl, rfl, rfl, rfl, trivial⟩, ⟨rfl, trivial⟩⟩, h4.2.2.1, h4.2.2.2⟩⟩⟩⟩)⟩⟩)⟩, fun h8 => ⟨((h11.2 x8 V3 h9 h10).2 h8).1, ⟨((h11.2 x8 V3 h9 h10).2 h8).2.1, ⟨(L_nat_mul_1.mk (IntKind.i64.wrap (x5.t27 + 1)) (List.set x8.o24 (0 + Int.toNat (IntKind.i64.wrap (x5.t27 + (p1.len : Int))) * 1) (.int .u32 (IntKind.u32.wrap x8.t8)))), ⟨⟨rfl, rfl, rfl, rfl, rfl, trivial⟩, ⟨rfl, trivial⟩⟩, ((h11.2 x8 V3 h9 h10).2 h8).2.2.1, ((h11.2 x8 V3 h9 h10).2 h8).2.2.2⟩⟩⟩⟩⟩⟩)⟩, fun h17 => (fun b1 V4 h15 h16 => (CallV.mono ((((h.2 x1 V1 h20 h21).2.2 x5 V2 h18 h19).2 h17) b1 V4 h15 h16) (fun _ _ _ ⟨r1, h14, h13⟩ => ⟨r1, h14, h13⟩)))⟩⟩⟩⟩))

structure L_nat_shl_0 where
  u : Unit
structure L_nat_shl_1 where
  t32 : Int
  o29 : List Value
/-- (waveport/num.nat).shl -/
theorem nat_shl_vc (p0 : Sl) (p1 : Int) (V : View) (R : Value → View → Prop) (I_nat_shl_0 : Unit → L_nat_shl_0 → View → Prop) (I_nat_shl_1 : Unit → L_nat_shl_1 → View → Prop) (mu_nat_shl_1 : Unit → L_nat_shl_1 → View → Nat)
  (h :
    (((((p0.len : Int) : Int) == 0) = true →
      (true = true →
        R (p0.v) V) ∧
      (true = false →
        I_nat_shl_0 () (L_nat_shl_0.mk ()) V)) ∧
      ((((p0.len : Int) : Int) == 0) = false →
      (((p1 : Int) == 0) = true →
        R (p0.v) V) ∧
      (((p1 : Int) == 0) = false →
        I_nat_shl_0 () (L_nat_shl_0.mk ()) V))) ∧
    (∀ (x1 : L_nat_shl_0) (V1 : View), View.le V V1 → I_nat_shl_0 () x1 V1 →
      ((0 : Int) ≤ (IntKind.i64.wrap ((IntKind.i64.wrap ((p0.len : Int) + (IntKind.i64.wrap (Int.tdiv p1 32)))) + 1)) ∧ ((IntKind.i64.wrap ((IntKind.i64.wrap ((p0.len : Int) + (IntKind.i64.wrap (Int.tdiv p1 32)))) + 1)) : Int) ≤ (IntKind.i64.wrap ((IntKind.i64.wrap ((p0.len : Int) + (IntKind.i64.wrap (Int.tdiv p1 32)))) + 1)) ∧ (4 : Int) * (IntKind.i64.wrap ((IntKind.i64.wrap ((p0.len : Int) + (IntKind.i64.wrap (Int.tdiv p1 32)))) + 1)) ≤ 281474976710656 ∧ ((IntKind.i64.wrap ((IntKind.i64.wrap ((p0.len : Int) + (IntKind.i64.wrap (Int.tdiv p1 32)))) + 1)) : Int) ≤ 9223372036854775807) ∧
      I_nat_shl_1 () (L_nat_shl_1.mk 0 ((List.replicate (Int.toNat (IntKind.i64.wrap ((IntKind.i64.wrap ((p0.len : Int) + (IntKind.i64.wrap (Int.tdiv p1 32)))) + 1))) [Value.int .u32 0]).flatten)) V1 ∧
      (∀ (x5 : L_nat_shl_1) (V2 : View), View.le V1 V2 → I_nat_shl_1 () x5 V2 →
        ((decide ((x5.t32 : Int) < (p0.len : Int))) = true →
          ((0 : Int) ≤ x5.t32 ∧ (x5.t32 : Int) < (p0.len : Nat) ∧ Option.isSome p0.a = true) ∧
        ∃ x6 : Int, View.load V2 (Option.map (fun q => Addr.add q (Int.toNat x5.t32 * 1)) p0.a) = some (.int .u32 x6) ∧
        (0 : Int) ≤ (IntKind.u64.wrap (Int.tmod p1 32)) ∧
        ((0 : Int) ≤ (IntKind.i64.wrap (x5.t32 + (IntKind.i64.wrap (Int.tdiv p1 32)))) ∧ ((IntKind.i64.wrap (x5.t32 + (IntKind.i64.wrap (Int.tdiv p1 32)))) : Int) < (Int.toNat (IntKind.i64.wrap ((IntKind.i64.wrap ((p0.len : Int) + (IntKind.i64.wrap (Int.tdiv p1 32)))) + 1)) : Nat)) ∧
        ∃ x7 : Int, x5.o29[0 + Int.toNat (IntKind.i64.wrap (x5.t32 + (IntKind.i64.wrap (Int.tdiv p1 32)))) * 1]? = some (.int .u32 x7) ∧
        ((0 : Int) ≤ (IntKind.i64.wrap (x5.t32 + (IntKind.i64.wrap (Int.tdiv p1 32)))) ∧ ((IntKind.i64.wrap (x5.t32 + (IntKind.i64.wrap (Int.tdiv p1 32)))) : Int) < (Int.toNat (IntKind.i64.wrap ((IntKind.i64.wrap ((p0.len : Int) + (IntKind.i64.wrap (Int.tdiv p1 32)))) + 1)) : Nat)) ∧
        0 + Int.toNat (IntKind.i64.wrap (x5.t32 + (IntKind.i64.wrap (Int.tdiv p1 32)))) * 1 + 1 ≤ List.length x5.o29 ∧
        ((0 : Int) ≤ (IntKind.i64.wrap ((IntKind.i64.wrap (x5.t32 + (IntKind.i64.wrap (Int.tdiv p1 32)))) + 1)) ∧ ((IntKind.i64.wrap ((IntKind.i64.wrap (x5.t32 + (IntKind.i64.wrap (Int.tdiv p1 32)))) + 1)) : Int) < (Int.toNat (IntKind.i64.wrap ((IntKind.i64.wrap ((p0.len : Int) + (IntKind.i64.wrap (Int.tdiv p1 32)))) + 1)) : Nat)) ∧
        0 + Int.toNat (IntKind.i64.wrap ((IntKind.i64.wrap (x5.t32 + (IntKind.i64.wrap (Int.tdiv p1 32)))) + 1)) * 1 + 1 ≤ List.length (List.set x5.o29 (0 + Int.toNat (IntKind.i64.wrap (x5.t32 + (IntKind.i64.wrap (Int.tdiv p1 32)))) * 1) (.int .u32 (IntKind.u32.wrap (BitVec.toNat ((BitVec.ofInt IntKind.u32.bits x7) ||| (BitVec.ofInt IntKind.u32.bits (IntKind.u32.wrap (IntKind.u64.wrap ((IntKind.u64.wrap x6) * 2 ^ (min (Int.toNat (IntKind.u64.wrap (Int.tmod p1 32))) (IntKind.bits .u64))))))))))) ∧
        I_nat_shl_1 () (L_nat_shl_1.mk (IntKind.i64.wrap (x5.t32 + 1)) (List.set (List.set x5.o29 (0 + Int.toNat (IntKind.i64.wrap (x5.t32 + (IntKind.i64.wrap (Int.tdiv p1 32)))) * 1) (.int .u32 (IntKind.u32.wrap (BitVec.toNat ((BitVec.ofInt IntKind.u32.bits x7) ||| (BitVec.ofInt IntKind.u32.bits (IntKind.u32.wrap (IntKind.u64.wrap ((IntKind.u64.wrap x6) * 2 ^ (min (Int.toNat (IntKind.u64.wrap (Int.tmod p1 32))) (IntKind.bits .u64))))))))))) (0 + Int.toNat (IntKind.i64.wrap ((IntKind.i64.wrap (x5.t32 + (IntKind.i64.wrap (Int.tdiv p1 32)))) + 1)) * 1) (.int .u32 (IntKind.u32.wrap (Int.fdiv (IntKind.u64.wrap ((IntKind.u64.wrap x6) * 2 ^ (min (Int.toNat (IntKind.u64.wrap (Int.tmod p1 32))) (IntKind.bits .u64)))) (2 ^ (min (Int.toNat 32) (IntKind.u64.bits)))))))) V2 ∧ mu_nat_shl_1 () (L_nat_shl_1.mk (IntKind.i64.wrap (x5.t32 + 1)) (List.set (List.set x5.o29 (0 + Int.toNat (IntKind.i64.wrap (x5.t32 + (IntKind.i64.wrap (Int.tdiv p1 32)))) * 1) (.int .u32 (IntKind.u32.wrap (BitVec.toNat ((BitVec.ofInt IntKind.u32.bits x7) ||| (BitVec.ofInt IntKind.u32.bits (IntKind.u32.wrap (IntKind.u64.wrap ((IntKind.u64.wrap x6) * 2 ^ (min (Int.toNat (IntKind.u64.wrap (Int.tmod p1 32))) (IntKind.bits .u64))))))))))) (0 + Int.toNat (IntKind.i64.wrap ((IntKind.i64.wrap (x5.t32 + (IntKind.i64.wrap (Int.tdiv p1 32)))) + 1)) * 1) (.int .u32 (IntKind.u32.wrap (Int.fdiv (IntKind.u64.wrap ((IntKind.u64.wrap x6) * 2 ^ (min (Int.toNat (IntKind.u64.wrap (Int.tmod p1 32))) (IntKind.bits .u64)))) (2 ^ (min (Int.toNat 32) (IntKind.u64.bits)))))))) V2 < mu_nat_shl_1 () x5 V2) ∧
        ((decide ((x5.t32 : Int) < (p0.len : Int))) = false →
          ∀ (b1 : Nat) (V3 : View), View.le V2 V3 → V3 b1 = some (List.toArray x5.o29) →
      CallV Try.prog 147 #[(Sl.mk (some (Addr.mk b1 0 none)) (Int.toNat (IntKind.i64.wrap ((IntKind.i64.wrap ((p0.len : Int) + (IntKind.i64.wrap (Int.tdiv p1 32)))) + 1))) (Int.toNat (IntKind.i64.wrap ((IntKind.i64.wrap ((p0.len : Int) + (IntKind.i64.wrap (Int.tdiv p1 32)))) + 1)))).v] V3 fun v V4 => ∃ r1 : Sl, v = r1.v ∧ -- num.trim
      R (r1.v) V4)))) :
  CallV Try.prog 160 #[p0.v, .int .i64 p1] V R :=
  calls_of_vc (Shp := Shp) hmixed Try.func160 (c := Try.f160.body.getD .skip) (args := [p0.v, .int .i64 p1]) (by kernel_rfl)
    (.seq (.reg [⟨4, 2, false⟩]) (.cut Unit L_nat_shl_0 (fun _ => ()) (fun c x => { tm := spT 63 0 [(0, .val (p0.v)), (1, .val (.int .i64 p1))], own := spO 63 0 [] }) I_nat_shl_0 (.seq (.reg [⟨11, 2, false⟩, ⟨12, 0, false⟩, ⟨13, 0, false⟩, ⟨14, 2, true⟩, ⟨15, 2, false⟩, ⟨16, 0, false⟩, ⟨17, 2, false⟩]) (.cond (.seq (.reg [⟨18, 2, false⟩, ⟨4, 2, false⟩]) .leaf) .leaf)) (.seq (.reg [⟨19, 2, false⟩, ⟨20, 0, false⟩, ⟨21, 2, false⟩, ⟨22, 0, false⟩, ⟨23, 0, false⟩, ⟨5, 2, false⟩, ⟨6, 2, false⟩]) (.seq (.reg [⟨24, 2, false⟩, ⟨25, 0, false⟩, ⟨26, 2, false⟩, ⟨27, 0, false⟩, ⟨28, 0, false⟩, ⟨29, 3, false⟩, ⟨7, 2, false⟩]) (.seq (.seq (.reg [⟨30, 2, false⟩, ⟨31, 0, false⟩, ⟨32, 2, false⟩]) (.block (.loop Unit L_nat_shl_1 (fun _ => ()) (fun c x => { tm := spT 63 0 [(5, .val (.int .i64 (IntKind.i64.wrap (Int.tdiv p1 32)))), (6, .val (.int .u64 (IntKind.u64.wrap (Int.tmod p1 32)))), (7, .osl 29 0 (Int.toNat (IntKind.i64.wrap ((IntKind.i64.wrap ((p0.len : Int) + (IntKind.i64.wrap (Int.tdiv p1 32)))) + 1))) (Int.toNat (IntKind.i64.wrap ((IntKind.i64.wrap ((p0.len : Int) + (IntKind.i64.wrap (Int.tdiv p1 32)))) + 1)))), (30, .val (p0.v)), (31, .val (.int .i64 (p0.len : Int))), (32, .val (.int .i64 x.t32))], own := spO 63 0 [(29, ⟨142, .dyn x.o29⟩)] }) I_nat_shl_1 mu_nat_shl_1 (.seq (.reg [⟨33, 0, false⟩]) (.seq (.cond .leaf .leaf) (.seq (.block (.seq (.reg [⟨34, 2, false⟩, ⟨35, 7, false⟩, ⟨36, 5, false⟩, ⟨8, 2, false⟩, ⟨9, 2, false⟩]) (.seq (.reg [⟨37, 2, false⟩, ⟨38, 0, false⟩, ⟨39, 2, false⟩, ⟨40, 12, false⟩, ⟨10, 2, false⟩]) (.seq (.reg [⟨41, 2, false⟩, ⟨42, 2, false⟩, ⟨43, 2, false⟩, ⟨44, 0, false⟩, ⟨45, 7, false⟩, ⟨29, 4, false⟩, ⟨47, 2, false⟩, ⟨48, 0, false⟩, ⟨49, 0, false⟩, ⟨50, 7, false⟩, ⟨29, 6, false⟩]) (.reg [⟨51, 2, false⟩, ⟨52, 2, false⟩, ⟨53, 2, false⟩, ⟨54, 0, false⟩, ⟨55, 0, false⟩, ⟨56, 2, false⟩, ⟨57, 0, false⟩, ⟨58, 0, false⟩, ⟨59, 7, false⟩, ⟨29, 6, false⟩]))))) (.reg [⟨60, 0, false⟩, ⟨32, 2, false⟩]))))))) (.seq (.pub 29 (.reg [⟨61, 2, false⟩, ⟨62, 10, false⟩, ⟨4, 2, false⟩])) .leaf))))))
    (Eq.mpr (by kernel_rfl) (show (((((p0.len : Int) : Int) == 0) = true →
      (true = true →
        R (p0.v) V) ∧
      (true = false →
        ∃ x2 : L_nat_shl_0, ((SV.val (p0.v) = SV.val (p0.v) ∧ SV.val (.int .i64 p1) = SV.val (.int .i64 p1) ∧ True) ∧ (True)) ∧ I_nat_shl_0 () x2 V)) ∧
      ((((p0.len : Int) : Int) == 0) = false →
      (((p1 : Int) == 0) = true →
        R (p0.v) V) ∧
      (((p1 : Int) == 0) = false →
        ∃ x3 : L_nat_shl_0, ((SV.val (p0.v) = SV.val (p0.v) ∧ SV.val (.int .i64 p1) = SV.val (.int .i64 p1) ∧ True) ∧ (True)) ∧ I_nat_shl_0 () x3 V))) ∧
    (∀ (x1 : L_nat_shl_0) (V1 : View), View.le V V1 → I_nat_shl_0 () x1 V1 →
      ((0 : Int) ≤ (IntKind.i64.wrap ((IntKind.i64.wrap ((p0.len : Int) + (IntKind.i64.wrap (Int.tdiv p1 32)))) + 1)) ∧ ((IntKind.i64.wrap ((IntKind.i64.wrap ((p0.len : Int) + (IntKind.i64.wrap (Int.tdiv p1 32)))) + 1)) : Int) ≤ (IntKind.i64.wrap ((IntKind.i64.wrap ((p0.len : Int) + (IntKind.i64.wrap (Int.tdiv p1 32)))) + 1)) ∧ (4 : Int) * (IntKind.i64.wrap ((IntKind.i64.wrap ((p0.len : Int) + (IntKind.i64.wrap (Int.tdiv p1 32)))) + 1)) ≤ 281474976710656 ∧ ((IntKind.i64.wrap ((IntKind.i64.wrap ((p0.len : Int) + (IntKind.i64.wrap (Int.tdiv p1 32)))) + 1)) : Int) ≤ 9223372036854775807) ∧
      (∃ x4 : L_nat_shl_1, ((SV.val (.int .i64 (IntKind.i64.wrap (Int.tdiv p1 32))) = SV.val (.int .i64 (IntKind.i64.wrap (Int.tdiv p1 32))) ∧ SV.val (.int .u64 (IntKind.u64.wrap (Int.tmod p1 32))) = SV.val (.int .u64 (IntKind.u64.wrap (Int.tmod p1 32))) ∧ SV.osl 29 0 (Int.toNat (IntKind.i64.wrap ((IntKind.i64.wrap ((p0.len : Int) + (IntKind.i64.wrap (Int.tdiv p1 32)))) + 1))) (Int.toNat (IntKind.i64.wrap ((IntKind.i64.wrap ((p0.len : Int) + (IntKind.i64.wrap (Int.tdiv p1 32)))) + 1))) = SV.osl 29 0 (Int.toNat (IntKind.i64.wrap ((IntKind.i64.wrap ((p0.len : Int) + (IntKind.i64.wrap (Int.tdiv p1 32)))) + 1))) (Int.toNat (IntKind.i64.wrap ((IntKind.i64.wrap ((p0.len : Int) + (IntKind.i64.wrap (Int.tdiv p1 32)))) + 1))) ∧ SV.val (p0.v) = SV.val (p0.v) ∧ SV.val (.int .i64 (p0.len : Int)) = SV.val (.int .i64 (p0.len : Int)) ∧ SV.val (.int .i64 0) = SV.val (.int .i64 x4.t32) ∧ True) ∧ ((some (⟨142, .dyn ((List.replicate (Int.toNat (IntKind.i64.wrap ((IntKind.i64.wrap ((p0.len : Int) + (IntKind.i64.wrap (Int.tdiv p1 32)))) + 1))) [Value.int .u32 0]).flatten)⟩) : Option OB) = some (⟨142, .dyn x4.o29⟩) ∧ True)) ∧ I_nat_shl_1 () x4 V1) ∧
      (∀ (x5 : L_nat_shl_1) (V2 : View), View.le V1 V2 → I_nat_shl_1 () x5 V2 →
        ((decide ((x5.t32 : Int) < (p0.len : Int))) = true →
          ((0 : Int) ≤ x5.t32 ∧ (x5.t32 : Int) < (p0.len : Nat) ∧ Option.isSome p0.a = true) ∧
        ∃ x6 : Int, View.load V2 (Option.map (fun q => Addr.add q (Int.toNat x5.t32 * 1)) p0.a) = some (.int .u32 x6) ∧
        (0 : Int) ≤ (IntKind.u64.wrap (Int.tmod p1 32)) ∧
        ((0 : Int) ≤ (IntKind.i64.wrap (x5.t32 + (IntKind.i64.wrap (Int.tdiv p1 32)))) ∧ ((IntKind.i64.wrap (x5.t32 + (IntKind.i64.wrap (Int.tdiv p1 32)))) : Int) < (Int.toNat (IntKind.i64.wrap ((IntKind.i64.wrap ((p0.len : Int) + (IntKind.i64.wrap (Int.tdiv p1 32)))) + 1)) : Nat)) ∧
        ∃ x7 : Int, x5.o29[0 + Int.toNat (IntKind.i64.wrap (x5.t32 + (IntKind.i64.wrap (Int.tdiv p1 32)))) * 1]? = some (.int .u32 x7) ∧
        ((0 : Int) ≤ (IntKind.i64.wrap (x5.t32 + (IntKind.i64.wrap (Int.tdiv p1 32)))) ∧ ((IntKind.i64.wrap (x5.t32 + (IntKind.i64.wrap (Int.tdiv p1 32)))) : Int) < (Int.toNat (IntKind.i64.wrap ((IntKind.i64.wrap ((p0.len : Int) + (IntKind.i64.wrap (Int.tdiv p1 32)))) + 1)) : Nat)) ∧
        0 + Int.toNat (IntKind.i64.wrap (x5.t32 + (IntKind.i64.wrap (Int.tdiv p1 32)))) * 1 + 1 ≤ List.length x5.o29 ∧
        ((0 : Int) ≤ (IntKind.i64.wrap ((IntKind.i64.wrap (x5.t32 + (IntKind.i64.wrap (Int.tdiv p1 32)))) + 1)) ∧ ((IntKind.i64.wrap ((IntKind.i64.wrap (x5.t32 + (IntKind.i64.wrap (Int.tdiv p1 32)))) + 1)) : Int) < (Int.toNat (IntKind.i64.wrap ((IntKind.i64.wrap ((p0.len : Int) + (IntKind.i64.wrap (Int.tdiv p1 32)))) + 1)) : Nat)) ∧
        0 + Int.toNat (IntKind.i64.wrap ((IntKind.i64.wrap (x5.t32 + (IntKind.i64.wrap (Int.tdiv p1 32)))) + 1)) * 1 + 1 ≤ List.length (List.set x5.o29 (0 + Int.toNat (IntKind.i64.wrap (x5.t32 + (IntKind.i64.wrap (Int.tdiv p1 32)))) * 1) (.int .u32 (IntKind.u32.wrap (BitVec.toNat ((BitVec.ofInt IntKind.u32.bits x7) ||| (BitVec.ofInt IntKind.u32.bits (IntKind.u32.wrap (IntKind.u64.wrap ((IntKind.u64.wrap x6) * 2 ^ (min (Int.toNat (IntKind.u64.wrap (Int.tmod p1 32))) (IntKind.bits .u64))))))))))) ∧
        ∃ x8 : L_nat_shl_1, ((SV.val (.int .i64 (IntKind.i64.wrap (Int.tdiv p1 32))) = SV.val (.int .i64 (IntKind.i64.wrap (Int.tdiv p1 32))) ∧ SV.val (.int .u64 (IntKind.u64.wrap (Int.tmod p1 32))) = SV.val (.int .u64 (IntKind.u64.wrap (Int.tmod p1 32))) ∧ SV.osl 29 0 (Int.toNat (IntKind.i64.wrap ((IntKind.i64.wrap ((p0.len : Int) + (IntKind.i64.wrap (Int.tdiv p1 32)))) + 1))) (Int.toNat (IntKind.i64.wrap ((IntKind.i64.wrap ((p0.len : Int) + (IntKind.i64.wrap (Int.tdiv p1 32)))) + 1))) = SV.osl 29 0 (Int.toNat (IntKind.i64.wrap ((IntKind.i64.wrap ((p0.len : Int) + (IntKind.i64.wrap (Int.tdiv p1 32)))) + 1))) (Int.toNat (IntKind.i64.wrap ((IntKind.i64.wrap ((p0.len : Int) + (IntKind.i64.wrap (Int.tdiv p1 32)))) + 1))) ∧ SV.val (p0.v) = SV.val (p0.v) ∧ SV.val (.int .i64 (p0.len : Int)) = SV.val (.int .i64 (p0.len : Int)) ∧ SV.val (.int .i64 (IntKind.i64.wrap (x5.t32 + 1))) = SV.val (.int .i64 x8.t32) ∧ True) ∧ ((some (⟨142, .dyn (List.set (List.set x5.o29 (0 + Int.toNat (IntKind.i64.wrap (x5.t32 + (IntKind.i64.wrap (Int.tdiv p1 32)))) * 1) (.int .u32 (IntKind.u32.wrap (BitVec.toNat ((BitVec.ofInt IntKind.u32.bits x7) ||| (BitVec.ofInt IntKind.u32.bits (IntKind.u32.wrap (IntKind.u64.wrap ((IntKind.u64.wrap x6) * 2 ^ (min (Int.toNat (IntKind.u64.wrap (Int.tmod p1 32))) (IntKind.bits .u64))))))))))) (0 + Int.toNat (IntKind.i64.wrap ((IntKind.i64.wrap (x5.t32 + (IntKind.i64.wrap (Int.tdiv p1 32)))) + 1)) * 1) (.int .u32 (IntKind.u32.wrap (Int.fdiv (IntKind.u64.wrap ((IntKind.u64.wrap x6) * 2 ^ (min (Int.toNat (IntKind.u64.wrap (Int.tmod p1 32))) (IntKind.bits .u64)))) (2 ^ (min (Int.toNat 32) (IntKind.u64.bits)))))))⟩) : Option OB) = some (⟨142, .dyn x8.o29⟩) ∧ True)) ∧ I_nat_shl_1 () x8 V2 ∧ mu_nat_shl_1 () x8 V2 < mu_nat_shl_1 () x5 V2) ∧
        ((decide ((x5.t32 : Int) < (p0.len : Int))) = false →
          ∀ (b1 : Nat) (V3 : View), View.le V2 V3 → V3 b1 = some (List.toArray x5.o29) →
      CallV Try.prog 147 #[(Sl.mk (some (Addr.mk b1 0 none)) (Int.toNat (IntKind.i64.wrap ((IntKind.i64.wrap ((p0.len : Int) + (IntKind.i64.wrap (Int.tdiv p1 32)))) + 1))) (Int.toNat (IntKind.i64.wrap ((IntKind.i64.wrap ((p0.len : Int) + (IntKind.i64.wrap (Int.tdiv p1 32)))) + 1)))).v] V3 fun v V4 => ∃ r1 : Sl, v = r1.v ∧ -- num.trim
      R (r1.v) V4))) from ⟨⟨fun h3 => ⟨fun h1 => ((h.1.1 h3).1 h1), fun h1 => ⟨(L_nat_shl_0.mk ()), ⟨⟨rfl, rfl, trivial⟩, trivial⟩, ((h.1.1 h3).2 h1)⟩⟩, fun h3 => ⟨fun h2 => ((h.1.2 h3).1 h2), fun h2 => ⟨(L_nat_shl_0.mk ()), ⟨⟨rfl, rfl, trivial⟩, trivial⟩, ((h.1.2 h3).2 h2)⟩⟩⟩, fun x1 V1 h15 h16 => ⟨(h.2 x1 V1 h15 h16).1, ⟨⟨(L_nat_shl_1.mk 0 ((List.replicate (Int.toNat (IntKind.i64.wrap ((IntKind.i64.wrap ((p0.len : Int) + (IntKind.i64.wrap (Int.tdiv p1 32)))) + 1))) [Value.int .u32 0]).flatten)), ⟨⟨rfl, rfl, rfl, rfl, rfl, rfl, trivial⟩, ⟨rfl, trivial⟩⟩, (h.2 x1 V1 h15 h16).2.1⟩, fun x5 V2 h13 h14 => ⟨fun h12 => ⟨(((h.2 x1 V1 h15 h16).2.2 x5 V2 h13 h14).1 h12).1, (match (((h.2 x1 V1 h15 h16).2.2 x5 V2 h13 h14).1 h12).2 with | ⟨x6, h7, h6⟩ => ⟨x6, h7, ⟨h6.1, ⟨h6.2.1, (match h6.2.2 with | ⟨x7, h5, h4⟩ => ⟨x7, h5, ⟨h4.1, ⟨h4.2.1, ⟨h4.2.2.1, ⟨h4.2.2.2.1, ⟨(L_nat_shl_1.mk (IntKind.i64.wrap (x5.t32 + 1)) (List.set (List.set x5.o29 (0 + Int.toNat (IntKind.i64.wrap (x5.t32 + (IntKind.i64.wrap (Int.tdiv p1 32)))) * 1) (.int .u32 (IntKind.u32.wrap (BitVec.toNat ((BitVec.ofInt IntKind.u32.bits x7) ||| (BitVec.ofInt IntKind.u32.bits (IntKind.u32.wrap (IntKind.u64.wrap ((IntKind.u64.wrap x6) * 2 ^ (min (Int.toNat (IntKind.u64.wrap (Int.tmod p1 32))) (IntKind.bits .u64))))))))))) (0 + Int.toNat (IntKind.i64.wrap ((IntKind.i64.wrap (x5.t32 + (IntKind.i64.wrap (Int.tdiv p1 32)))) + 1)) * 1) (.int .u32 (IntKind.u32.wrap (Int.fdiv (IntKind.u64.wrap ((IntKind.u64.wrap x6) * 2 ^ (min (Int.toNat (IntKind.u64.wrap (Int.tmod p1 32))) (IntKind.bits .u64)))) (2 ^ (min (Int.toNat 32) (IntKind.u64.bits)))))))), ⟨⟨rfl, rfl, rfl, rfl, rfl, rfl, trivial⟩, ⟨rfl, trivial⟩⟩, h4.2.2.2.2.1, h4.2.2.2.2.2⟩⟩⟩⟩⟩⟩)⟩⟩⟩)⟩, fun h12 => (fun b1 V3 h10 h11 => (CallV.mono ((((h.2 x1 V1 h15 h16).2.2 x5 V2 h13 h14).2 h12) b1 V3 h10 h11) (fun _ _ _ ⟨r1, h9, h8⟩ => ⟨r1, h9, h8⟩)))⟩⟩⟩⟩))

structure L_nat_shr_0 where
  t26 : Int
  o23 : List Value
/-- (waveport/num.nat).shr -/
theorem nat_shr_vc (p0 : Sl) (p1 : Int) (V : View) (R : Value → View → Prop) (I_nat_shr_0 : Unit → L_nat_shr_0 → View → Prop) (mu_nat_shr_0 : Unit → L_nat_shr_0 → View → Nat)
  (h :
    ((decide (((IntKind.i64.wrap (Int.tdiv p1 32)) : Int) ≥ (p0.len : Int))) = true →
      R ((Sl.mk none 0 0).v) V) ∧
    ((decide (((IntKind.i64.wrap (Int.tdiv p1 32)) : Int) ≥ (p0.len : Int))) = false →
      ((0 : Int) ≤ (IntKind.i64.wrap ((p0.len : Int) - (IntKind.i64.wrap (Int.tdiv p1 32)))) ∧ ((IntKind.i64.wrap ((p0.len : Int) - (IntKind.i64.wrap (Int.tdiv p1 32)))) : Int) ≤ (IntKind.i64.wrap ((p0.len : Int) - (IntKind.i64.wrap (Int.tdiv p1 32)))) ∧ (4 : Int) * (IntKind.i64.wrap ((p0.len : Int) - (IntKind.i64.wrap (Int.tdiv p1 32)))) ≤ 281474976710656 ∧ ((IntKind.i64.wrap ((p0.len : Int) - (IntKind.i64.wrap (Int.tdiv p1 32)))) : Int) ≤ 9223372036854775807) ∧
    I_nat_shr_0 () (L_nat_shr_0.mk 0 ((List.replicate (Int.toNat (IntKind.i64.wrap ((p0.len : Int) - (IntKind.i64.wrap (Int.tdiv p1 32))))) [Value.int .u32 0]).flatten)) V ∧
    (∀ (x2 : L_nat_shr_0) (V1 : View), View.le V V1 → I_nat_shr_0 () x2 V1 →
      ((decide ((x2.t26 : Int) < ((Int.toNat (IntKind.i64.wrap ((p0.len : Int) - (IntKind.i64.wrap (Int.tdiv p1 32)))) : Nat) : Int))) = true →
        ((0 : Int) ≤ (IntKind.i64.wrap (x2.t26 + (IntKind.i64.wrap (Int.tdiv p1 32)))) ∧ ((IntKind.i64.wrap (x2.t26 + (IntKind.i64.wrap (Int.tdiv p1 32)))) : Int) < (p0.len : Nat) ∧ Option.isSome p0.a = true) ∧
      ∃ x3 : Int, View.load V1 (Option.map (fun q => Addr.add q (Int.toNat (IntKind.i64.wrap (x2.t26 + (IntKind.i64.wrap (Int.tdiv p1 32)))) * 1)) p0.a) = some (.int .u32 x3) ∧
      ((decide (((IntKind.i64.wrap ((IntKind.i64.wrap (x2.t26 + (IntKind.i64.wrap (Int.tdiv p1 32)))) + 1)) : Int) < (p0.len : Int))) = true →
        ((0 : Int) ≤ (IntKind.i64.wrap ((IntKind.i64.wrap (x2.t26 + (IntKind.i64.wrap (Int.tdiv p1 32)))) + 1)) ∧ ((IntKind.i64.wrap ((IntKind.i64.wrap (x2.t26 + (IntKind.i64.wrap (Int.tdiv p1 32)))) + 1)) : Int) < (p0.len : Nat) ∧ Option.isSome p0.a = true) ∧
        ∃ x4 : Int, View.load V1 (Option.map (fun q => Addr.add q (Int.toNat (IntKind.i64.wrap ((IntKind.i64.wrap (x2.t26 + (IntKind.i64.wrap (Int.tdiv p1 32)))) + 1)) * 1)) p0.a) = some (.int .u32 x4) ∧
        (0 : Int) ≤ (IntKind.u64.wrap (Int.tmod p1 32)) ∧
      ((0 : Int) ≤ x2.t26 ∧ (x2.t26 : Int) < (Int.toNat (IntKind.i64.wrap ((p0.len : Int) - (IntKind.i64.wrap (Int.tdiv p1 32)))) : Nat)) ∧
      0 + Int.toNat x2.t26 * 1 + 1 ≤ List.length x2.o23 ∧
      I_nat_shr_0 () (L_nat_shr_0.mk (IntKind.i64.wrap (x2.t26 + 1)) (List.set x2.o23 (0 + Int.toNat x2.t26 * 1) (.int .u32 (IntKind.u32.wrap (Int.fdiv (IntKind.u64.wrap (BitVec.toNat ((BitVec.ofInt IntKind.u64.bits (IntKind.u64.wrap x3)) ||| (BitVec.ofInt IntKind.u64.bits (IntKind.u64.wrap ((IntKind.u64.wrap x4) * 2 ^ (min (Int.toNat 32) (IntKind.u64.bits)))))))) (2 ^ (min (Int.toNat (IntKind.u64.wrap (Int.tmod p1 32))) (IntKind.bits .u64)))))))) V1 ∧ mu_nat_shr_0 () (L_nat_shr_0.mk (IntKind.i64.wrap (x2.t26 + 1)) (List.set x2.o23 (0 + Int.toNat x2.t26 * 1) (.int .u32 (IntKind.u32.wrap (Int.fdiv (IntKind.u64.wrap (BitVec.toNat ((BitVec.ofInt IntKind.u64.bits (IntKind.u64.wrap x3)) ||| (BitVec.ofInt IntKind.u64.bits (IntKind.u64.wrap ((IntKind.u64.wrap x4) * 2 ^ (min (Int.toNat 32) (IntKind.u64.bits)))))))) (2 ^ (min (Int.toNat (IntKind.u64.wrap (Int.tmod p1 32))) (IntKind.bits .u64)))))))) V1 < mu_nat_shr_0 () x2 V1) ∧
      ((decide (((IntKind.i64.wrap ((IntKind.i64.wrap (x2.t26 + (IntKind.i64.wrap (Int.tdiv p1 32)))) + 1)) : Int) < (p0.len : Int))) = false →
        (0 : Int) ≤ (IntKind.u64.wrap (Int.tmod p1 32)) ∧
      ((0 : Int) ≤ x2.t26 ∧ (x2.t26 : Int) < (Int.toNat (IntKind.i64.wrap ((p0.len : Int) - (IntKind.i64.wrap (Int.tdiv p1 32)))) : Nat)) ∧
      0 + Int.toNat x2.t26 * 1 + 1 ≤ List.length x2.o23 ∧
      I_nat_shr_0 () (L_nat_shr_0.mk (IntKind.i64.wrap (x2.t26 + 1)) (List.set x2.o23 (0 + Int.toNat x2.t26 * 1) (.int .u32 (IntKind.u32.wrap (Int.fdiv (IntKind.u64.wrap x3) (2 ^ (min (Int.toNat (IntKind.u64.wrap (Int.tmod p1 32))) (IntKind.bits .u64)))))))) V1 ∧ mu_nat_shr_0 () (L_nat_shr_0.mk (IntKind.i64.wrap (x2.t26 + 1)) (List.set x2.o23 (0 + Int.toNat x2.t26 * 1) (.int .u32 (IntKind.u32.wrap (Int.fdiv (IntKind.u64.wrap x3) (2 ^ (min (Int.toNat (IntKind.u64.wrap (Int.tmod p1 32))) (IntKind.bits .u64)))))))) V1 < mu_nat_shr_0 () x2 V1)) ∧
      ((decide ((x2.t26 : Int) < ((Int.toNat (IntKind.i64.wrap ((p0.len : Int) - (IntKind.i64.wrap (Int.tdiv p1 32)))) : Nat) : Int))) = false →
        ∀ (b1 : Nat) (V2 : View), View.le V1 V2 → V2 b1 = some (List.toArray x2.o23) →
    CallV Try.prog 147 #[(Sl.mk (some (Addr.mk b1 0 none)) (Int.toNat (IntKind.i64.wrap ((p0.len : Int) - (IntKind.i64.wrap (Int.tdiv p1 32))))) (Int.toNat (IntKind.i64.wrap ((p0.len : Int) - (IntKind.i64.wrap (Int.tdiv p1 32)))))).v] V2 fun v V3 => ∃ r1 : Sl, v = r1.v ∧ -- num.trim
    R (r1.v) V3)))) :
  CallV Try.prog 162 #[p0.v, .int .i64 p1] V R :=
  calls_of_vc (Shp := Shp) hmixed Try.func162 (c := Try.f162.body.getD .skip) (args := [p0.v, .int .i64 p1]) (by kernel_rfl)
    (.seq (.reg [⟨4, 2, false⟩]) (.seq (.reg [⟨10, 2, false⟩, ⟨11, 0, false⟩, ⟨12, 2, false⟩, ⟨13, 0, false⟩, ⟨14, 0, false⟩, ⟨5, 2, false⟩, ⟨6, 2, false⟩]) (.seq (.seq (.reg [⟨15, 2, false⟩, ⟨16, 2, false⟩, ⟨17, 0, false⟩, ⟨18, 0, false⟩]) (.cond (.seq (.reg [⟨4, 2, false⟩]) .leaf) .leaf)) (.seq (.reg [⟨19, 2, false⟩, ⟨20, 0, false⟩, ⟨21, 2, false⟩, ⟨22, 0, false⟩, ⟨23, 3, false⟩, ⟨7, 2, false⟩]) (.seq (.seq (.reg [⟨24, 2, false⟩, ⟨25, 7, false⟩, ⟨26, 2, false⟩]) (.block (.loop Unit L_nat_shr_0 (fun _ => ()) (fun c x => { tm := spT 64 0 [(0, .val (p0.v)), (5, .val (.int .i64 (IntKind.i64.wrap (Int.tdiv p1 32)))), (6, .val (.int .u64 (IntKind.u64.wrap (Int.tmod p1 32)))), (7, .osl 23 0 (Int.toNat (IntKind.i64.wrap ((p0.len : Int) - (IntKind.i64.wrap (Int.tdiv p1 32))))) (Int.toNat (IntKind.i64.wrap ((p0.len : Int) - (IntKind.i64.wrap (Int.tdiv p1 32)))))), (25, .val (.int .i64 ((Int.toNat (IntKind.i64.wrap ((p0.len : Int) - (IntKind.i64.wrap (Int.tdiv p1 32)))) : Nat) : Int))), (26, .val (.int .i64 x.t26))], own := spO 64 0 [(23, ⟨142, .dyn x.o23⟩)] }) I_nat_shr_0 mu_nat_shr_0 (.seq (.reg [⟨27, 0, false⟩]) (.seq (.cond .leaf .leaf) (.seq (.block (.seq (.reg [⟨28, 2, false⟩, ⟨8, 2, false⟩]) (.seq (.reg [⟨29, 2, false⟩, ⟨30, 2, false⟩, ⟨31, 2, false⟩, ⟨32, 0, false⟩, ⟨33, 7, false⟩, ⟨34, 5, false⟩, ⟨35, 0, false⟩, ⟨9, 2, false⟩]) (.seq (.seq (.reg [⟨36, 2, false⟩, ⟨37, 2, false⟩, ⟨38, 0, false⟩, ⟨39, 0, false⟩, ⟨40, 2, false⟩, ⟨41, 0, false⟩, ⟨42, 0, false⟩]) (.cond (.reg [⟨43, 2, false⟩, ⟨44, 2, false⟩, ⟨45, 2, false⟩, ⟨46, 2, false⟩, ⟨47, 0, false⟩, ⟨48, 0, false⟩, ⟨49, 7, false⟩, ⟨50, 5, false⟩, ⟨51, 0, false⟩, ⟨52, 0, false⟩, ⟨53, 0, false⟩, ⟨9, 2, false⟩]) .leaf)) (.reg [⟨54, 2, false⟩, ⟨55, 2, false⟩, ⟨56, 2, false⟩, ⟨57, 2, false⟩, ⟨58, 12, false⟩, ⟨59, 0, false⟩, ⟨60, 7, false⟩, ⟨23, 6, false⟩]))))) (.reg [⟨61, 0, false⟩, ⟨26, 2, false⟩]))))))) (.seq (.pub 23 (.reg [⟨62, 2, false⟩, ⟨63, 10, false⟩, ⟨4, 2, false⟩])) .leaf))))))
    (Eq.mpr (by kernel_rfl) (show ((decide (((IntKind.i64.wrap (Int.tdiv p1 32)) : Int) ≥ (p0.len : Int))) = true →
      R ((Sl.mk none 0 0).v) V) ∧
    ((decide (((IntKind.i64.wrap (Int.tdiv p1 32)) : Int) ≥ (p0.len : Int))) = false →
      ((0 : Int) ≤ (IntKind.i64.wrap ((p0.len : Int) - (IntKind.i64.wrap (Int.tdiv p1 32)))) ∧ ((IntKind.i64.wrap ((p0.len : Int) - (IntKind.i64.wrap (Int.tdiv p1 32)))) : Int) ≤ (IntKind.i64.wrap ((p0.len : Int) - (IntKind.i64.wrap (Int.tdiv p1 32)))) ∧ (4 : Int) * (IntKind.i64.wrap ((p0.len : Int) - (IntKind.i64.wrap (Int.tdiv p1 32)))) ≤ 281474976710656 ∧ ((IntKind.i64.wrap ((p0.len : Int) - (IntKind.i64.wrap (Int.tdiv p1 32)))) : Int) ≤ 9223372036854775807) ∧
    (∃ x1 : L_nat_shr_0, ((SV.val (p0.v) = SV.val (p0.v) ∧ SV.val (.int .i64 (IntKind.i64.wrap (Int.tdiv p1 32))) = SV.val (.int .i64 (IntKind.i64.wrap (Int.tdiv p1 32))) ∧ SV.val (.int .u64 (IntKind.u64.wrap (Int.tmod p1 32))) = SV.val (.int .u64 (IntKind.u64.wrap (Int.tmod p1 32))) ∧ SV.osl 23 0 (Int.toNat (IntKind.i64.wrap ((p0.len : Int) - (IntKind.i64.wrap (Int.tdiv p1 32))))) (Int.toNat (IntKind.i64.wrap ((p0.len : Int) - (IntKind.i64.wrap (Int.tdiv p1 32))))) = SV.osl 23 0 (Int.toNat (IntKind.i64.wrap ((p0.len : Int) - (IntKind.i64.wrap (Int.tdiv p1 32))))) (Int.toNat (IntKind.i64.wrap ((p0.len : Int) - (IntKind.i64.wrap (Int.tdiv p1 32))))) ∧ SV.val (.int .i64 ((Int.toNat (IntKind.i64.wrap ((p0.len : Int) - (IntKind.i64.wrap (Int.tdiv p1 32)))) : Nat) : Int)) = SV.val (.int .i64 ((Int.toNat (IntKind.i64.wrap ((p0.len : Int) - (IntKind.i64.wrap (Int.tdiv p1 32)))) : Nat) : Int)) ∧ SV.val (.int .i64 0) = SV.val (.int .i64 x1.t26) ∧ True) ∧ ((some (⟨142, .dyn ((List.replicate (Int.toNat (IntKind.i64.wrap ((p0.len : Int) - (IntKind.i64.wrap (Int.tdiv p1 32))))) [Value.int .u32 0]).flatten)⟩) : Option OB) = some (⟨142, .dyn x1.o23⟩) ∧ True)) ∧ I_nat_shr_0 () x1 V) ∧
    (∀ (x2 : L_nat_shr_0) (V1 : View), View.le V V1 → I_nat_shr_0 () x2 V1 →
      ((decide ((x2.t26 : Int) < ((Int.toNat (IntKind.i64.wrap ((p0.len : Int) - (IntKind.i64.wrap (Int.tdiv p1 32)))) : Nat) : Int))) = true →
        ((0 : Int) ≤ (IntKind.i64.wrap (x2.t26 + (IntKind.i64.wrap (Int.tdiv p1 32)))) ∧ ((IntKind.i64.wrap (x2.t26 + (IntKind.i64.wrap (Int.tdiv p1 32)))) : Int) < (p0.len : Nat) ∧ Option.isSome p0.a = true) ∧
      ∃ x3 : Int, View.load V1 (Option.map (fun q => Addr.add q (Int.toNat (IntKind.i64.wrap (x2.t26 + (IntKind.i64.wrap (Int.tdiv p1 32)))) * 1)) p0.a) = some (.int .u32 x3) ∧
      ((decide (((IntKind.i64.wrap ((IntKind.i64.wrap (x2.t26 + (IntKind.i64.wrap (Int.tdiv p1 32)))) + 1)) : Int) < (p0.len : Int))) = true →
        ((0 : Int) ≤ (IntKind.i64.wrap ((IntKind.i64.wrap (x2.t26 + (IntKind.i64.wrap (Int.tdiv p1 32)))) + 1)) ∧ ((IntKind.i64.wrap ((IntKind.i64.wrap (x2.t26 + (IntKind.i64.wrap (Int.tdiv p1 32)))) + 1)) : Int) < (p0.len : Nat) ∧ Option.isSome p0.a = true) ∧
        ∃ x4 : Int, View.load V1 (Option.map (fun q => Addr.add q (Int.toNat (IntKind.i64.wrap ((IntKind.i64.wrap (x2.t26 + (IntKind.i64.wrap (Int.tdiv p1 32)))) + 1)) * 1)) p0.a) = some (.int .u32 x4) ∧
        (0 : Int) ≤ (IntKind.u64.wrap (Int.tmod p1 32)) ∧
      ((0 : Int) ≤ x2.t26 ∧ (x2.t26 : Int) < (Int.toNat (IntKind.i64.wrap ((p0.len : Int) - (IntKind.i64.wrap (Int.tdiv p1 32)))) : Nat)) ∧
      0 + Int.toNat x2.t26 * 1 + 1 ≤ List.length x2.o23 ∧
      ∃ x5 : L_nat_shr_0, ((SV.val (p0.v) = SV.val (p0.v) ∧ SV.val (.int .i64 (IntKind.i64.wrap (Int.tdiv p1 32))) = SV.val (.int .i64 (IntKind.i64.wrap (Int.tdiv p1 32))) ∧ SV.val (.int .u64 (IntKind.u64.wrap (Int.tmod p1 32))) = SV.val (.int .u64 (IntKind.u64.wrap (Int.tmod p1 32))) ∧ SV.osl 23 0 (Int.toNat (IntKind.i64.wrap ((p0.len : Int) - (IntKind.i64.wrap (Int.tdiv p1 32))))) (Int.toNat (IntKind.i64.wrap ((p0.len : Int) - (IntKind.i64.wrap (Int.tdiv p1 32))))) = SV.osl 23 0 (Int.toNat (IntKind.i64.wrap ((p0.len : Int) - (IntKind.i64.wrap (Int.tdiv p1 32))))) (Int.toNat (IntKind.i64.wrap ((p0.len : Int) - (IntKind.i64.wrap (Int.tdiv p1 32))))) ∧ SV.val (.int .i64 ((Int.toNat (IntKind.i64.wrap ((p0.len : Int) - (IntKind.i64.wrap (Int.tdiv p1 32)))) : Nat) : Int)) = SV.val (.int .i64 ((Int.toNat (IntKind.i64.wrap ((p0.len : Int) - (IntKind.i64.wrap (Int.tdiv p1 32)))) : Nat) : Int)) ∧ SV.val (.int .i64 (IntKind.i64.wrap (x2.t26 + 1))) = SV.val (.int .i64 x5.t26) ∧ True) ∧ ((some (⟨142, .dyn (List.set x2.o23 (0 + Int.toNat x2.t26 * 1) (.int .u32 (IntKind.u32.wrap (Int.fdiv (IntKind.u64.wrap (BitVec.toNat ((BitVec.ofInt IntKind.u64.bits (IntKind.u64.wrap x3)) ||| (BitVec.ofInt IntKind.u64.bits (IntKind.u64.wrap ((IntKind.u64.wrap x4) * 2 ^ (min (Int.toNat 32) (IntKind.u64.bits)))))))) (2 ^ (min (Int.toNat (IntKind.u64.wrap (Int.tmod p1 32))) (IntKind.bits .u64)))))))⟩) : Option OB) = some (⟨142, .dyn x5.o23⟩) ∧ True)) ∧ I_nat_shr_0 () x5 V1 ∧ mu_nat_shr_0 () x5 V1 < mu_nat_shr_0 () x2 V1) ∧
      ((decide (((IntKind.i64.wrap ((IntKind.i64.wrap (x2.t26 + (IntKind.i64.wrap (Int.tdiv p1 32)))) + 1)) : Int) < (p0.len : Int))) = false →
        (0 : Int) ≤ (IntKind.u64.wrap (Int.tmod p1 32)) ∧
      ((0 : Int) ≤ x2.t26 ∧ (x2.t26 : Int) < (Int.toNat (IntKind.i64.wrap ((p0.len : Int) - (IntKind.i64.wrap (Int.tdiv p1 32)))) : Nat)) ∧
      0 + Int.toNat x2.t26 * 1 + 1 ≤ List.length x2.o23 ∧
      ∃ x6 : L_nat_shr_0, ((SV.val (p0.v) = SV.val (p0.v) ∧ SV.val (.int .i64 (IntKind.i64.wrap (Int.tdiv p1 32))) = SV.val (.int .i64 (IntKind.i64.wrap (Int.tdiv p1 32))) ∧ SV.val (.int .u64 (IntKind.u64.wrap (Int.tmod p1 32))) = SV.val (.int .u64 (IntKind.u64.wrap (Int.tmod p1 32))) ∧ SV.osl 23 0 (Int.toNat (IntKind.i64.wrap ((p0.len : Int) - (IntKind.i64.wrap (Int.tdiv p1 32))))) (Int.toNat (IntKind.i64.wrap ((p0.len : Int) - (IntKind.i64.wrap (Int.tdiv p1 32))))) = SV.osl 23 0 (Int.toNat (IntKind.i64.wrap ((p0.len : Int) - (IntKind.i64.wrap (Int.tdiv p1 32))))) (Int.toNat (IntKind.i64.wrap ((p0.len : Int) - (IntKind.i64.wrap (Int.tdiv p1 32))))) ∧ SV.val (.int .i64 ((Int.toNat (IntKind.i64.wrap ((p0.len : Int) - (IntKind.i64.wrap (Int.tdiv p1 32)))) : Nat) : Int)) = SV.val (.int .i64 ((Int.toNat (IntKind.i64.wrap ((p0.len : Int) - (IntKind.i64.wrap (Int.tdiv p1 32)))) : Nat) : Int)) ∧ SV.val (.int .i64 (IntKind.i64.wrap (x2.t26 + 1))) = SV.val (.int .i64 x6.t26) ∧ True) ∧ ((some (⟨142, .dyn (List.set x2.o23 (0 + Int.toNat x2.t26 * 1) (.int .u32 (IntKind.u32.wrap (Int.fdiv (IntKind.u64.wrap x3) (2 ^ (min (Int.toNat (IntKind.u64.wrap (Int.tmod p1 32))) (IntKind.bits .u64)))))))⟩) : Option OB) = some (⟨142, .dyn x6.o23⟩) ∧ True)) ∧ I_nat_shr_0 () x6 V1 ∧ mu_nat_shr_0 () x6 V1 < mu_nat_shr_0 () x2 V1)) ∧
      ((decide ((x2.t26 : Int) < ((Int.toNat (IntKind.i64.wrap ((p0.len : Int) - (IntKind.i64.wrap (Int.tdiv p1 32)))) : Nat) : Int))) = false →
        ∀ (b1 : Nat) (V2 : View), View.le V1 V2 → V2 b1 = some (List.toArray x2.o23) →
    CallV Try.prog 147 #[(Sl.mk (some (Addr.mk b1 0 none)) (Int.toNat (IntKind.i64.wrap ((p0.len : Int) - (IntKind.i64.wrap (Int.tdiv p1 32))))) (Int.toNat (IntKind.i64.wrap ((p0.len : Int) - (IntKind.i64.wrap (Int.tdiv p1 32)))))).v] V2 fun v V3 => ∃ r1 : Sl, v = r1.v ∧ -- num.trim
    R (r1.v) V3))) from ⟨fun h13 => (h.1 h13), fun h13 => ⟨(h.2 h13).1, ⟨⟨(L_nat_shr_0.mk 0 ((List.replicate (Int.toNat (IntKind.i64.wrap ((p0.len : Int) - (IntKind.i64.wrap (Int.tdiv p1 32))))) [Value.int .u32 0]).flatten)), ⟨⟨rfl, rfl, rfl, rfl, rfl, rfl, trivial⟩, ⟨rfl, trivial⟩⟩, (h.2 h13).2.1⟩, fun x2 V1 h11 h12 => ⟨fun h10 => ⟨(((h.2 h13).2.2 x2 V1 h11 h12).1 h10).1, (match (((h.2 h13).2.2 x2 V1 h11 h12).1 h10).2 with | ⟨x3, h5, h4⟩ => ⟨x3, h5, ⟨fun h3 => ⟨(h4.1 h3).1, (match (h4.1 h3).2 with | ⟨x4, h2, h1⟩ => ⟨x4, h2, ⟨h1.1, ⟨h1.2.1, ⟨h1.2.2.1, ⟨(L_nat_shr_0.mk (IntKind.i64.wrap (x2.t26 + 1)) (List.set x2.o23 (0 + Int.toNat x2.t26 * 1) (.int .u32 (IntKind.u32.wrap (Int.fdiv (IntKind.u64.wrap (BitVec.toNat ((BitVec.ofInt IntKind.u64.bits (IntKind.u64.wrap x3)) ||| (BitVec.ofInt IntKind.u64.bits (IntKind.u64.wrap ((IntKind.u64.wrap x4) * 2 ^ (min (Int.toNat 32) (IntKind.u64.bits)))))))) (2 ^ (min (Int.toNat (IntKind.u64.wrap (Int.tmod p1 32))) (IntKind.bits .u64)))))))), ⟨⟨rfl, rfl, rfl, rfl, rfl, rfl, trivial⟩, ⟨rfl, trivial⟩⟩, h1.2.2.2.1, h1.2.2.2.2⟩⟩⟩⟩⟩)⟩, fun h3 => ⟨(h4.2 h3).1, ⟨(h4.2 h3).2.1, ⟨(h4.2 h3).2.2.1, ⟨(L_nat_shr_0.mk (IntKind.i64.wrap (x2.t26 + 1)) (List.set x2.o23 (0 + Int.toNat x2.t26 * 1) (.int .u32 (IntKind.u32.wrap (Int.fdiv (IntKind.u64.wrap x3) (2 ^ (min (Int.toNat (IntKind.u64.wrap (Int.tmod p1 32))) (IntKind.bits .u64)))))))), ⟨⟨rfl, rfl, rfl, rfl, rfl, rfl, trivial⟩, ⟨rfl, trivial⟩⟩, (h4.2 h3).2.2.2.1, (h4.2 h3).2.2.2.2⟩⟩⟩⟩⟩⟩)⟩, fun h10 => (fun b1 V2 h8 h9 => (CallV.mono ((((h.2 h13).2.2 x2 V1 h11 h12).2 h10) b1 V2 h8 h9) (fun _ _ _ ⟨r1, h7, h6⟩ => ⟨r1, h7, h6⟩)))⟩⟩⟩⟩))

end Go.Proofs.Ytcapadojlaojkaa

namespace Go.Vc
open Go Go.RowKit

/-- The value of words, the lowest one first. -/
def wval : List Nat → Nat
  | [] => 0
  | d :: l => d + 4294967296 * wval l
/-- The words of a number, without zeros at the end. -/
def dig (n : Nat) : List Nat := if h : n = 0 then [] else n % 4294967296 :: dig (n / 4294967296)
termination_by n
decreasing_by omega
def WB (l : List Nat) : Prop := ∀ d ∈ l, d < 4294967296
def wv (l : List Nat) : List Value := l.map fun (d : Nat) => Value.int .u32 (d : Int)

theorem dig_zero : dig 0 = [] := by rw [dig]; simp
theorem dig_pos {n : Nat} (h : n ≠ 0) : dig n = n % 4294967296 :: dig (n / 4294967296) := by rw [dig]; simp [h]
theorem wval_dig (n : Nat) : wval (dig n) = n := by
  induction n using Nat.strongRecOn with
  | _ n ih =>
    by_cases h : n = 0
    · subst h; simp [dig_zero, wval]
    · rw [dig_pos h, wval, ih _ (by omega)]; omega
theorem WB_dig (n : Nat) : WB (dig n) := by
  induction n using Nat.strongRecOn with
  | _ n ih =>
    by_cases h : n = 0
    · subst h; simp [dig_zero, WB]
    · rw [dig_pos h]
      intro d hd
      rcases List.mem_cons.1 hd with rfl | hd
      · omega
      · exact ih _ (by omega) d hd
theorem wval_append (a b : List Nat) : wval (a ++ b) = wval a + 4294967296 ^ a.length * wval b := by
  induction a with
  | nil => simp [wval]
  | cons d l ih => simp only [List.cons_append, wval, ih, List.length_cons, Nat.pow_succ]; grind
theorem wval_lt {l : List Nat} (h : WB l) : wval l < 4294967296 ^ l.length := by
  induction l with
  | nil => simp [wval]
  | cons d l ih =>
    have h1 := ih (fun x hx => h x (by simp [hx]))
    have h2 := h d (by simp)
    simp only [wval, List.length_cons, Nat.pow_succ]
    omega
theorem wval_take_succ (l : List Nat) (i : Nat) : wval (l.take (i + 1)) = wval (l.take i) + l.getD i 0 * 4294967296 ^ i := by
  by_cases h : i < l.length
  · rw [List.take_succ_eq_append_getElem h, wval_append]
    have : (l.take i).length = i := by simp; omega
    rw [this]
    simp [wval, List.getD, h, Nat.mul_comm]
  · rw [List.take_of_length_le (by omega), List.take_of_length_le (by omega)]
    simp [List.getD, h]
theorem wval_take_all {l : List Nat} {i : Nat} (h : l.length ≤ i) : wval (l.take i) = wval l := by rw [List.take_of_length_le h]
theorem wval_take_set {l : List Nat} {i d : Nat} (h : i < l.length) : wval ((l.set i d).take (i + 1)) = wval (l.take i) + d * 4294967296 ^ i := by
  rw [wval_take_succ]
  have h1 : (l.set i d).take i = l.take i := by rw [List.take_set_of_le (Nat.le_refl i)]
  rw [h1]; simp [List.getD, h]
theorem wval_zeros (n : Nat) : wval (List.replicate n 0) = 0 := by
  induction n with
  | zero => rfl
  | succ n ih => simp [List.replicate_succ, wval, ih]
theorem wval_zero_of {l : List Nat} (h : ∀ d ∈ l, d = 0) : wval l = 0 := by
  induction l with
  | nil => rfl
  | cons d l ih => simp [wval, h d (by simp), ih (fun x hx => h x (by simp [hx]))]
theorem wval_drop (l : List Nat) (i : Nat) : wval l = wval (l.take i) + 4294967296 ^ (l.take i).length * wval (l.drop i) := by
  rw [← wval_append, List.take_append_drop]
/-- Words without a zero at the end are those of their value. -/
theorem dig_wval {l : List Nat} (h : WB l) (hl : ∀ d, l.getLast? = some d → d ≠ 0) : dig (wval l) = l := by
  induction l with
  | nil => simp [wval, dig_zero]
  | cons d l ih =>
    have hd := h d (by simp)
    have hb : WB l := fun x hx => h x (by simp [hx])
    have hne : wval (d :: l) ≠ 0 := by
      intro h0
      simp only [wval] at h0
      have hd0 : d = 0 := by omega
      have hw0 : wval l = 0 := by omega
      cases l with
      | nil => exact hl d (by simp) hd0
      | cons e l =>
        have h1 := ih hb (fun x hx => hl x (by simpa [List.getLast?_cons_cons] using hx))
        rw [hw0, dig_zero] at h1; simp at h1
    rw [dig_pos hne]
    simp only [wval]
    have e1 : (d + 4294967296 * wval l) % 4294967296 = d := by omega
    have e2 : (d + 4294967296 * wval l) / 4294967296 = wval l := by omega
    rw [e1, e2]
    cases l with
    | nil => simp [wval, dig_zero]
    | cons e l => rw [ih hb (fun x hx => hl x (by simpa [List.getLast?_cons_cons] using hx))]
theorem dig_last {n d : Nat} (h : (dig n).getLast? = some d) : d ≠ 0 := by
  induction n using Nat.strongRecOn with
  | _ n ih =>
    by_cases h0 : n = 0
    · subst h0; simp [dig_zero] at h
    · rw [dig_pos h0] at h
      by_cases h1 : n / 4294967296 = 0
      · rw [h1, dig_zero] at h; simp at h; omega
      · rw [dig_pos h1, List.getLast?_cons_cons, ← dig_pos h1] at h
        exact ih _ (by omega) h
/-- The number of words. -/
def wn (n : Nat) : Nat := (dig n).length
theorem wn_zero : wn 0 = 0 := by simp [wn, dig_zero]
theorem wn_eq_zero {n : Nat} : wn n = 0 ↔ n = 0 := by
  constructor
  · intro h
    rcases Nat.eq_zero_or_pos n with h0 | h0
    · exact h0
    · simp [wn, dig_pos (by omega : n ≠ 0)] at h
  · rintro rfl; exact wn_zero
theorem lt_wn (n : Nat) : n < 4294967296 ^ wn n := by
  have := wval_lt (WB_dig n)
  rwa [wval_dig] at this
theorem wn_le {n : Nat} (h : n ≠ 0) : 4294967296 ^ (wn n - 1) ≤ n := by
  induction n using Nat.strongRecOn with
  | _ n ih =>
    simp only [wn, dig_pos h, List.length_cons, Nat.add_sub_cancel]
    by_cases h1 : n / 4294967296 = 0
    · rw [h1, dig_zero]; simp; omega
    · have h2 := ih _ (by omega) h1
      have h3 : wn (n / 4294967296) ≠ 0 := by rw [Ne, wn_eq_zero]; exact h1
      have e : (dig (n / 4294967296)).length = wn (n / 4294967296) - 1 + 1 := by simp only [wn] at h3 ⊢; omega
      rw [e, Nat.pow_succ]
      have := Nat.mul_le_mul_right 4294967296 h2
      omega
theorem wn_le_of_lt {n k : Nat} (h : n < 4294967296 ^ k) : wn n ≤ k := by
  rcases Nat.eq_zero_or_pos n with h0 | h0
  · subst h0; simp [wn_zero]
  · rcases Nat.lt_or_ge k (wn n) with h1 | h1
    · exfalso
      have h2 := wn_le (by omega : n ≠ 0)
      have h3 : 4294967296 ^ k ≤ 4294967296 ^ (wn n - 1) := Nat.pow_le_pow_right (by omega) (by omega)
      omega
    · exact h1
theorem wn_mono {a b : Nat} (h : a ≤ b) : wn a ≤ wn b := wn_le_of_lt (Nat.lt_of_le_of_lt h (lt_wn b))
theorem wn_add_le (a b : Nat) : wn (a + b) ≤ max (wn a) (wn b) + 1 := by
  refine wn_le_of_lt ?_
  have h1 := lt_wn a
  have h2 := lt_wn b
  have h3 : 4294967296 ^ wn a ≤ 4294967296 ^ max (wn a) (wn b) := Nat.pow_le_pow_right (by omega) (by omega)
  have h4 : 4294967296 ^ wn b ≤ 4294967296 ^ max (wn a) (wn b) := Nat.pow_le_pow_right (by omega) (by omega)
  rw [Nat.pow_succ]; omega
theorem wn_mul_le (a b : Nat) : wn (a * b) ≤ wn a + wn b := by
  refine wn_le_of_lt ?_
  rw [Nat.pow_add]
  exact Nat.mul_lt_mul'' (lt_wn a) (lt_wn b)
theorem wn_lt_pow {n k : Nat} (h : n < 2 ^ (32 * k)) : wn n ≤ k := by
  refine wn_le_of_lt ?_
  have : (4294967296 : Nat) = 2 ^ 32 := rfl
  rw [this, ← Nat.pow_mul]; exact h

/-- A slice of words, as they lie in known memory. -/
structure Words (V : View) (s : Sl) (l : List Nat) : Prop where
  load : ∀ (i d : Nat), l[i]? = Option.some d → V.load (s.a.map (·.add i)) = some (.int .u32 (d : Int))
  len : s.len = l.length
  cap : s.len ≤ s.cap
  wb : WB l
/-- A slice that holds a natural number. -/
def NatAt (V : View) (s : Sl) (n : Nat) : Prop := Words V s (dig n)

theorem Words.le {V V' : View} {s : Sl} {l : List Nat} (hle : V.le V') (h : Words V s l) : Words V' s l :=
  ⟨fun i d hi => View.load_le hle (h.load i d hi), h.len, h.cap, h.wb⟩
theorem NatAt.le {V V' : View} {s : Sl} {n : Nat} (hle : V.le V') (h : NatAt V s n) : NatAt V' s n := Words.le hle h
theorem Words.isSome {V : View} {s : Sl} {l : List Nat} (h : Words V s l) (hl : 0 < s.len) : s.a.isSome = true := by
  have hl' : 0 < l.length := by rw [← h.len]; exact hl
  have := h.load 0 _ (List.getElem?_eq_getElem hl')
  cases ha : s.a with
  | none => rw [ha] at this; simp [View.load] at this
  | some a => rfl
theorem Words.get {V : View} {s : Sl} {l : List Nat} (h : Words V s l) {i : Int} (h0 : 0 ≤ i) (h1 : i < s.len) :
    V.load (Option.map (fun q => Addr.add q (Int.toNat i * 1)) s.a) = some (.int .u32 (l.getD i.toNat 0 : Nat)) := by
  have hi : i.toNat < l.length := by have := h.len; omega
  have := h.load i.toNat _ (List.getElem?_eq_getElem hi)
  simpa [List.getD, hi] using this
theorem Words.getD_lt {V : View} {s : Sl} {l : List Nat} (h : Words V s l) (i : Nat) : l.getD i 0 < 4294967296 := by
  by_cases hi : i < l.length
  · have := h.wb (l[i]) (List.getElem_mem _)
    simpa [List.getD, hi] using this
  · simp [List.getD, hi]
theorem WB.getD {l : List Nat} (h : WB l) (i : Nat) : l.getD i 0 < 4294967296 := by
  by_cases hi : i < l.length
  · have := h (l[i]) (List.getElem_mem _)
    simpa [List.getD, hi] using this
  · simp [List.getD, hi]
theorem WB.set {l : List Nat} (h : WB l) {i d : Nat} (hd : d < 4294967296) : WB (l.set i d) := by
  intro x hx
  rcases List.mem_or_eq_of_mem_set hx with h1 | h1
  · exact h x h1
  · omega
theorem WB.zeros (n : Nat) : WB (List.replicate n 0) := fun d hd => by rw [(List.mem_replicate.1 hd).2]; omega
theorem WB.take {l : List Nat} (h : WB l) (n : Nat) : WB (l.take n) := fun d hd => h d (List.mem_of_mem_take hd)
theorem WB.drop {l : List Nat} (h : WB l) (n : Nat) : WB (l.drop n) := fun d hd => h d (List.mem_of_mem_drop hd)
theorem Words.nil (V : View) : Words V (Sl.mk none 0 0) [] := ⟨fun i d h => by simp at h, rfl, by simp, fun d h => by simp at h⟩
theorem NatAt.zero (V : View) : NatAt V (Sl.mk none 0 0) 0 := by unfold NatAt; rw [dig_zero]; exact Words.nil V
theorem Words.nat {V : View} {s : Sl} {l : List Nat} (h : Words V s l) (hl : ∀ d, l.getLast? = some d → d ≠ 0) : NatAt V s (wval l) := by
  unfold NatAt; rw [dig_wval h.wb hl]; exact h
theorem Words.inj {V : View} {s : Sl} {a b : List Nat} (h1 : Words V s a) (h2 : Words V s b) : a = b := by
  have l1 := h1.len
  have l2 := h2.len
  apply List.ext_getElem?
  intro j
  by_cases hj : j < a.length
  · have g1 := h1.load j _ (List.getElem?_eq_getElem hj)
    have g2 := h2.load j _ (List.getElem?_eq_getElem (by omega))
    rw [g1] at g2
    simp only [Option.some.injEq, Value.int.injEq, true_and] at g2
    rw [List.getElem?_eq_getElem hj, List.getElem?_eq_getElem (by omega)]
    congr 1
    omega
  · rw [List.getElem?_eq_none (by omega), List.getElem?_eq_none (by omega)]
theorem NatAt.inj {V : View} {s : Sl} {a b : Nat} (h1 : NatAt V s a) (h2 : NatAt V s b) : a = b := by
  rw [← wval_dig a, ← wval_dig b, Words.inj h1 h2]
theorem NatAt.isSome {V : View} {s : Sl} {n : Nat} (h : NatAt V s n) (hl : 0 < s.len) : s.a.isSome = true := Words.isSome h hl
theorem NatAt.get {V : View} {s : Sl} {n : Nat} (h : NatAt V s n) {i : Int} (h0 : 0 ≤ i) (h1 : i < s.len) :
    V.load (Option.map (fun q => Addr.add q (Int.toNat i * 1)) s.a) = some (.int .u32 ((dig n).getD i.toNat 0 : Nat)) := Words.get h h0 h1
theorem NatAt.getD_lt {V : View} {s : Sl} {n : Nat} (h : NatAt V s n) (i : Nat) : (dig n).getD i 0 < 4294967296 := Words.getD_lt h i
theorem NatAt.len {V : View} {s : Sl} {n : Nat} (h : NatAt V s n) : s.len = (dig n).length := Words.len h
/-- A block that is wholly known. -/
theorem Words.of_block {V : View} {b : Nat} {l : List Nat} {n c : Nat} (hb : V b = .some (wv l).toArray) (hn : n = l.length) (hc : n ≤ c) (hw : WB l) : Words V (Sl.mk (.some (Addr.mk b 0 none)) n c) l := by
  refine ⟨fun i d hi => ?_, hn, hc, hw⟩
  by_cases e : i = 0
  · subst e; simp [View.load, Addr.add, hb, wv, hi]
  · simp [View.load, Addr.add, hb, wv, hi, e]
theorem wv_length (l : List Nat) : (wv l).length = l.length := by simp [wv]
theorem wv_get {l : List Nat} {i : Nat} (h : i < l.length) : (wv l)[i]? = .some (.int .u32 (l.getD i 0 : Nat)) := by simp [wv, List.getD, h]
theorem wv_set (l : List Nat) (i d : Nat) : (wv l).set i (.int .u32 (d : Nat)) = wv (l.set i d) := by simp [wv, List.map_set]
theorem wv_zeros (n : Nat) : (List.replicate n [Value.int .u32 0]).flatten = wv (List.replicate n 0) := by
  induction n with
  | zero => rfl
  | succ n ih => simp [List.replicate_succ, ih, wv]

/-- The number that a slice holds. -/
def natVal (V : View) (s : Sl) : Nat := wval ((List.range s.len).map fun i => match V.load (s.a.map (·.add i)) with | .some (.int _ n) => n.toNat | _ => 0)
theorem natVal_eq {V : View} {s : Sl} {n : Nat} (h : NatAt V s n) : natVal V s = n := by
  unfold natVal
  have e : ((List.range s.len).map fun i => match V.load (s.a.map (·.add i)) with | .some (.int _ n) => n.toNat | _ => 0) = dig n := by
    apply List.ext_getElem?
    intro i
    have hl := h.len
    by_cases hi : i < s.len
    · have := Words.load h i _ (List.getElem?_eq_getElem (by omega))
      simp [hi, this, List.getElem?_eq_getElem (by omega : i < (dig n).length)]
    · rw [List.getElem?_eq_none (by simp; omega), List.getElem?_eq_none (by omega)]
  rw [e, wval_dig]
theorem i64w {n : Int} (h0 : -9223372036854775808 ≤ n) (h1 : n ≤ 9223372036854775807) : IntKind.i64.wrap n = n := IntWalk.i64_in n ⟨h0, h1⟩
theorem u64w {n : Int} (h0 : 0 ≤ n) (h1 : n ≤ 18446744073709551615) : IntKind.u64.wrap n = n := IntWalk.u64_in n ⟨h0, h1⟩
theorem u32w {n : Int} (h0 : 0 ≤ n) (h1 : n ≤ 4294967295) : IntKind.u32.wrap n = n := IntWalk.u32_in n ⟨h0, h1⟩
theorem u32m (n : Int) : IntKind.u32.wrap n = n % 4294967296 := by rw [IntKind.wrap_u32]
theorem u64m (n : Int) : IntKind.u64.wrap n = n % 18446744073709551616 := by simp [IntKind.wrap, IntKind.signed, IntKind.bits]

end Go.Vc

namespace Go.Proofs.Ytcapadojlaojkaa
open Go Go.Vc Go.Proofs

theorem num_trim_spec {V : View} {s : Sl} {l : List Nat} (h : Words V s l) (hs : l.length ≤ 2 ^ 50) :
    CallV Try.prog n_num_trim #[s.v] V fun v V' => ∃ r : Sl, v = r.v ∧ NatAt V' r (wval l) := by
  have hlen := h.len
  refine num_trim_vc s V _ (fun _ x _ => 0 ≤ x.t3 ∧ x.t3 ≤ s.len ∧ ∀ d ∈ l.drop x.t3.toNat, d = 0) (fun _ x _ => x.t3.toNat) ⟨⟨Int.natCast_nonneg _, Int.le_refl _, ?_⟩, ?_⟩
  · intro d hd
    simp only [Int.toNat_natCast, hlen, List.drop_length] at hd
    simp at hd
  rintro ⟨t⟩ V1 hle ⟨h0, h1, h2⟩
  simp only at h0 h1 h2 ⊢
  have hcap := h.cap
  -- what is handed back
  have out : t = 0 ∨ l.getD (t.toNat - 1) 0 ≠ 0 → NatAt V1 (Sl.mk (if Int.toNat t = Int.toNat 0 then s.a else Option.map (fun q => Addr.add q (Int.toNat 0 * 1)) s.a) (Int.toNat t - Int.toNat 0) (Int.toNat t - Int.toNat 0)) (wval l) := by
    intro hz
    have hw : wval l = wval (l.take t.toNat) := by
      rw [wval_drop l t.toNat, wval_zero_of h2]; omega
    rw [hw]
    refine Words.nat ⟨?_, ?_, Nat.le_refl _, h.wb.take _⟩ ?_
    · intro i d hi
      have hi' : i < t.toNat := by
        rcases Nat.lt_or_ge i t.toNat with h | h
        · exact h
        · rw [List.getElem?_eq_none (by simp; omega)] at hi; simp at hi
      rw [List.getElem?_take_of_lt hi'] at hi
      have hne : ¬ Int.toNat t = Int.toNat 0 := by simp only [Int.toNat_zero]; omega
      have := View.load_le hle (h.load i d hi)
      simp only [hne, if_false, Option.map_map]
      have e : ((fun x => x.add i) ∘ fun q => Addr.add q (Int.toNat 0 * 1)) = fun q : Addr => q.add i := by
        funext q; simp [Addr.add]
      rw [e]; exact this
    · simp; omega
    · intro d hd
      rcases hz with rfl | hz
      · simp at hd
      · have h3 : t.toNat ≠ 0 := by
          intro e; rw [e] at hd; simp at hd
        rw [List.getLast?_eq_getElem?] at hd
        have h4 : (l.take t.toNat).length = t.toNat := by simp; omega
        rw [h4, List.getElem?_take_of_lt (by omega)] at hd
        simp only [List.getD, hd, Option.getD_some] at hz
        exact hz
  refine ⟨fun hp => ?_, fun hp => ⟨by simp, fun _ => ⟨⟨by omega, by omega, by omega, by omega⟩, _, rfl, out (.inl ?_)⟩⟩⟩
  · simp only [decide_eq_true_eq] at hp
    rw [i64w (by omega) (by omega)]
    refine ⟨⟨by omega, by omega, h.isSome (by omega)⟩, _, (h.le hle).get (by omega) (by omega), fun hz => ?_, fun hz => ⟨⟨by omega, by omega, by omega, by omega⟩, _, rfl, out (.inr ?_)⟩⟩
    · simp only [beq_iff_eq] at hz
      refine ⟨⟨by omega, by omega, fun d hd => ?_⟩, by omega⟩
      have hlt : (t - 1).toNat < l.length := by omega
      rw [List.drop_eq_getElem_cons hlt] at hd
      rcases List.mem_cons.1 hd with rfl | hd
      · simp only [List.getD, List.getElem?_eq_getElem hlt, Option.getD_some] at hz; omega
      · exact h2 d (by rw [show (t - 1).toNat + 1 = t.toNat by omega] at hd; exact hd)
    · simp only [beq_eq_false_iff_ne, ne_eq] at hz
      rw [show t.toNat - 1 = (t - 1).toNat by omega]
      intro e; rw [e] at hz; exact hz rfl
  · simp only [decide_eq_false_iff_not] at hp; omega

theorem num_natOf_spec {V : View} {n : Int} (h0 : 0 ≤ n) (h1 : n ≤ 18446744073709551615) :
    CallV Try.prog n_num_natOf #[.int .u64 n] V fun v V' => ∃ r : Sl, v = r.v ∧ NatAt V' r n.toNat := by
  refine num_natOf_vc n V _ fun b V1 hle _ hb => ?_
  have e : IntKind.u32.wrap (Int.fdiv n (2 ^ (min (Int.toNat 32) (IntKind.u64.bits)))) = ((n.toNat / 4294967296 : Nat) : Int) := by
    have : (2 : Int) ^ (min (Int.toNat 32) (IntKind.u64.bits)) = 4294967296 := by decide
    rw [this, u32w] <;> rw [Int.fdiv_eq_ediv_of_nonneg _ (by omega)] <;> omega
  have e2 : IntKind.u32.wrap n = ((n.toNat % 4294967296 : Nat) : Int) := by rw [u32m]; omega
  have hw : Words V1 (Sl.mk (some (Addr.mk b 0 none)) 2 2) [n.toNat % 4294967296, n.toNat / 4294967296] :=
    Words.of_block (by rw [hb, e, e2]; rfl) rfl (by omega) (by intro d hd; simp at hd; omega)
  refine (num_trim_spec hw (by simp)).mono fun v V' _ ⟨r, hv, hr⟩ => ⟨r, hv, _, rfl, ?_⟩
  have : wval [n.toNat % 4294967296, n.toNat / 4294967296] = n.toNat := by simp [wval]; omega
  rw [this] at hr; exact hr

theorem nat_one_spec {V : View} {s : Sl} {n : Nat} (h : NatAt V s n) :
    CallV Try.prog n_nat_one #[s.v] V fun v V' => v = .bool (decide (n = 1)) := by
  have hl := h.len
  refine nat_one_vc s V _ ⟨fun h1 => ?_, fun h1 => ?_⟩
  · have h1 : s.len = 1 := by have : (s.len : Int) = 1 := (by simpa using h1); omega
    refine ⟨⟨by omega, by omega, h.isSome (by omega)⟩, _, h.get (by omega) (by omega), ?_⟩
    have hd : dig n = [n] ∧ n ≠ 0 := by
      have h0 : n ≠ 0 := by rintro rfl; simp [dig_zero, h1] at hl
      rw [dig_pos h0] at hl
      have h2 : n / 4294967296 = 0 := by
        rcases Nat.eq_zero_or_pos (n / 4294967296) with h | h
        · exact h
        · rw [dig_pos (by omega)] at hl; simp at hl; omega
      rw [dig_pos h0, h2, dig_zero]
      exact ⟨by congr 1; omega, h0⟩
    rw [hd.1]
    simp only [Int.toNat_zero, List.getD_cons_zero]
    congr 1
    by_cases e : n = 1
    · subst e; rfl
    · have : (n : Int) ≠ 1 := by omega
      simp [e, this]
  · have h1 : s.len ≠ 1 := by have : ¬ (s.len : Int) = 1 := (by simpa using h1); omega
    have : n ≠ 1 := by
      rintro rfl
      apply h1
      rw [hl, dig_pos (by omega)]
      simp [dig_zero]
    simp [this]

theorem dig_len_lt {a b : Nat} (h : (dig a).length < (dig b).length) : a < b := by
  rcases Nat.lt_or_ge a b with h1 | h1
  · exact h1
  · have := wn_mono h1; simp only [wn] at this; omega
theorem dig_inj {a b : Nat} (h : dig a = dig b) : a = b := by rw [← wval_dig a, ← wval_dig b, h]
theorem wval_lt_of {a b : List Nat} {i : Nat} (ha : WB a) (hab : a.length = b.length) (hi : i < a.length) (hd : a.drop (i + 1) = b.drop (i + 1)) (hlt : a.getD i 0 < b.getD i 0) : wval a < wval b := by
  rw [wval_drop a (i + 1), wval_drop b (i + 1), hd, wval_take_succ, wval_take_succ]
  have h1 := wval_lt (ha.take i)
  have e1 : (a.take i).length = i := by simp; omega
  have e2 : (a.take (i + 1)).length = i + 1 := by simp; omega
  have e3 : (b.take (i + 1)).length = i + 1 := by simp; omega
  rw [e1] at h1; rw [e2, e3]
  have := Nat.mul_le_mul_right (4294967296 ^ i) (Nat.succ_le_of_lt hlt)
  rw [Nat.succ_mul] at this
  omega

theorem nat_cmp_spec {V : View} {s t : Sl} {a b : Nat} (hs : NatAt V s a) (ht : NatAt V t b) (hb : wn a ≤ 2 ^ 50) :
    CallV Try.prog n_nat_cmp #[s.v, t.v] V fun v V' => v = .int .i64 (if a < b then -1 else if a = b then 0 else 1) := by
  have h1 := hs.len
  have h2 := ht.len
  simp only [wn] at hb
  refine nat_cmp_vc s t V _ (fun _ x _ => -1 ≤ x.t5 ∧ x.t5 < s.len ∧ (dig a).drop (x.t5 + 1).toNat = (dig b).drop (x.t5 + 1).toNat) (fun _ x _ => (x.t5 + 1).toNat) ⟨fun hne => ⟨fun hlt => ?_, fun hlt => ?_⟩, fun he => ⟨?_, ?_⟩⟩
  · have := dig_len_lt (a := a) (b := b) (by simpa [h1, h2] using hlt)
    simp [this]
  · have hne : ¬ (s.len : Int) = t.len := by simpa using hne
    have hlt : ¬ s.len < t.len := by simpa using hlt
    have := dig_len_lt (a := b) (b := a) (by omega)
    rw [if_neg (by omega), if_neg (by omega)]
  · have he : (s.len : Int) = t.len := by simpa using he
    rw [i64w (by omega) (by omega)]
    refine ⟨?_, ?_, ?_⟩
    · show (-1 : Int) ≤ s.len - 1; omega
    · show (s.len : Int) - 1 < s.len; omega
    · rw [List.drop_eq_nil_of_le, List.drop_eq_nil_of_le] <;> simp <;> omega
  · have he : (s.len : Int) = t.len := by simpa using he
    rintro ⟨i⟩ V1 hle ⟨i0, i1, hd⟩
    simp only at i0 i1 hd ⊢
    refine ⟨fun hp => ?_, fun hp => ?_⟩
    · simp only [ge_iff_le, decide_eq_true_eq] at hp
      refine ⟨⟨by omega, by omega, hs.isSome (by omega)⟩, _, (hs.le hle).get (by omega) (by omega), ⟨by omega, by omega, ht.isSome (by omega)⟩, _, (ht.le hle).get (by omega) (by omega), fun hlt => ?_, fun hlt =>
        ⟨⟨by omega, by omega, hs.isSome (by omega)⟩, _, (hs.le hle).get (by omega) (by omega), ⟨by omega, by omega, ht.isSome (by omega)⟩, _, (ht.le hle).get (by omega) (by omega), fun hgt => ?_, fun hgt => ?_⟩⟩
      · have hlt : (dig a).getD i.toNat 0 < (dig b).getD i.toNat 0 := by simpa using hlt
        have := wval_lt_of (WB_dig a) (by omega) (i := i.toNat) (by omega) (by rw [show i.toNat + 1 = (i + 1).toNat by omega]; exact hd) hlt
        rw [wval_dig, wval_dig] at this
        simp [this]
      · have hgt : (dig b).getD i.toNat 0 < (dig a).getD i.toNat 0 := by simpa using hgt
        have := wval_lt_of (WB_dig b) (by omega) (i := i.toNat) (by omega) (by rw [show i.toNat + 1 = (i + 1).toNat by omega]; exact hd.symm) hgt
        rw [wval_dig, wval_dig] at this
        rw [if_neg (by omega), if_neg (by omega)]
      · have hlt : ¬ (dig a).getD i.toNat 0 < (dig b).getD i.toNat 0 := by simpa using hlt
        have hgt : ¬ (dig b).getD i.toNat 0 < (dig a).getD i.toNat 0 := by simpa using hgt
        rw [i64w (by omega) (by omega)]
        refine ⟨⟨by show (-1 : Int) ≤ i - 1; omega, by show i - 1 < (s.len : Int); omega, ?_⟩, by show (i - 1 + 1).toNat < (i + 1).toNat; omega⟩
        have e : (i - 1 + 1).toNat = i.toNat := by omega
        show (dig a).drop (i - 1 + 1).toNat = (dig b).drop (i - 1 + 1).toNat
        rw [e, List.drop_eq_getElem_cons (by omega : i.toNat < (dig a).length), List.drop_eq_getElem_cons (by omega : i.toNat < (dig b).length)]
        have e2 : i.toNat + 1 = (i + 1).toNat := by omega
        rw [e2, hd]
        congr 1
        simp only [List.getD, List.getElem?_eq_getElem (by omega : i.toNat < (dig a).length), List.getElem?_eq_getElem (by omega : i.toNat < (dig b).length), Option.getD_some] at hlt hgt
        omega
    · simp only [ge_iff_le, decide_eq_false_iff_not] at hp
      have e : (i + 1).toNat = 0 := by omega
      rw [e] at hd
      have := dig_inj (by simpa using hd)
      subst this
      simp

theorem bits_Add32_spec {V : View} {x y c : Nat} (hx : x < 4294967296) (hy : y < 4294967296) (hc : c ≤ 1) :
    CallV Try.prog n_bits_Add32 #[.int .u32 (x : Int), .int .u32 (y : Int), .int .u32 (c : Int)] V fun v V' =>
      v = .tuple #[.int .u32 (((x + y + c) % 4294967296 : Nat) : Int), .int .u32 (((x + y + c) / 4294967296 : Nat) : Int)] := by
  refine bits_Add32_vc _ _ _ V _ ?_
  rw [u64w (by omega : (0:Int) ≤ (x : Int)) (by omega), u64w (by omega : (0:Int) ≤ (y : Int)) (by omega), u64w (by omega : (0:Int) ≤ (c : Int)) (by omega),
    u64w (by omega : (0:Int) ≤ (x : Int) + y) (by omega), u64w (by omega : (0:Int) ≤ (x : Int) + y + c) (by omega)]
  have : (2 : Int) ^ (min (Int.toNat 32) (IntKind.u64.bits)) = 4294967296 := by decide
  rw [this, Int.fdiv_eq_ediv_of_nonneg _ (by omega), u32m, u32w (by omega) (by omega)]
  congr 2

theorem nat_add_spec {V : View} {s t : Sl} {a b : Nat} (hs : NatAt V s a) (ht : NatAt V t b) (ha : wn a ≤ 2 ^ 45) (hb : wn b ≤ 2 ^ 45) :
    CallV Try.prog n_nat_add #[s.v, t.v] V fun v V' => ∃ r : Sl, v = r.v ∧ NatAt V' r (a + b) := by
  refine nat_add_vc s t V _ (fun _ x V' => ∃ a' b', NatAt V' x.t0 a' ∧ NatAt V' x.t1 b' ∧ a' + b' = a + b ∧ wn a' ≤ 2 ^ 45 ∧ x.t1.len ≤ x.t0.len)
    (fun c x V' => ∃ a' b' l k, NatAt V' c.t0 a' ∧ NatAt V' c.t1 b' ∧ a' + b' = a + b ∧ c.t1.len ≤ c.t0.len ∧ x.o19 = wv l ∧ WB l ∧ l.length = c.t0.len + 1 ∧ x.t6 = (k : Nat) ∧ k ≤ 1 ∧ 0 ≤ x.t22 ∧ x.t22 ≤ c.t0.len ∧
      wval (l.take x.t22.toNat) + k * 4294967296 ^ x.t22.toNat = wval ((dig a').take x.t22.toNat) + wval ((dig b').take x.t22.toNat))
    (fun c x _ => (c.t0.len - x.t22).toNat) ⟨⟨fun h => ⟨b, a, ht, hs, by omega, hb, ?_⟩, fun h => ⟨a, b, hs, ht, rfl, ha, ?_⟩⟩, ?_⟩
  · have : s.len < t.len := by simpa using h
    exact Nat.le_of_lt this
  · have : ¬ s.len < t.len := by simpa using h
    exact Nat.le_of_not_lt this
  rintro ⟨x, y⟩ V1 hle ⟨a', b', hx, hy, hab, hwa, hlen⟩
  simp only at hx hy hlen ⊢
  have hxl := hx.len
  have hyl := hy.len
  simp only [wn] at hwa
  rw [i64w (n := (x.len : Int) + 1) (by omega) (by omega)]
  refine ⟨⟨by omega, by omega, by omega, by omega⟩, ⟨a', b', List.replicate (x.len + 1) 0, 0, hx, hy, hab, hlen, ?_, WB.zeros _, by simp, rfl, by omega, Int.le_refl _, by show (0 : Int) ≤ x.len; omega, by simp [wval]⟩, ?_⟩
  · show (List.replicate (Int.toNat ((x.len : Int) + 1)) [Value.int .u32 0]).flatten = _
    rw [show Int.toNat ((x.len : Int) + 1) = x.len + 1 by omega, wv_zeros]
  rintro ⟨k, i, o⟩ V2 hle2 ⟨a2, b2, l, k', hx2, hy2, hab2, _, ho, hwb, hl, hk, hk1, hi0, hi1, hval⟩
  simp only at ho hk hi0 hi1 hval hx2 hy2 hl ⊢
  obtain rfl := hx2.inj (hx.le hle2)
  obtain rfl := hy2.inj (hy.le hle2)
  subst hk
  refine ⟨fun hp => ?_, fun hp => ?_⟩
  · simp only [decide_eq_true_eq] at hp
    -- one more word, whatever stands there in the shorter one
    have step : ∀ (r c : Nat) (V3 : View), View.le V2 V3 → r + c * 4294967296 = (dig a2).getD i.toNat 0 + (dig b2).getD i.toNat 0 + k' → r < 4294967296 → c ≤ 1 →
        (∃ a' b' l k, NatAt V3 x a' ∧ NatAt V3 y b' ∧ a' + b' = a + b ∧ y.len ≤ x.len ∧ List.set o (0 + Int.toNat i * 1) (.int .u32 (r : Nat)) = wv l ∧ WB l ∧ l.length = x.len + 1 ∧ (c : Int) = (k : Nat) ∧ k ≤ 1 ∧ 0 ≤ i + 1 ∧ i + 1 ≤ x.len ∧
          wval (l.take (i + 1).toNat) + k * 4294967296 ^ (i + 1).toNat = wval ((dig a').take (i + 1).toNat) + wval ((dig b').take (i + 1).toNat)) := by
      intro r c V3 hle3 hrc hr hc
      refine ⟨a2, b2, l.set i.toNat r, c, hx2.le hle3, hy2.le hle3, hab, hlen, ?_, hwb.set hr, by simpa using hl, rfl, hc, by omega, by omega, ?_⟩
      · rw [ho, show 0 + Int.toNat i * 1 = i.toNat by omega, wv_set]
      · rw [show (i + 1).toNat = i.toNat + 1 by omega, wval_take_set (by omega), wval_take_succ, wval_take_succ, Nat.pow_succ]
        have := congrArg (· * 4294967296 ^ i.toNat) hrc
        simp only [Nat.add_mul] at this
        grind
    refine ⟨fun hp2 => ?_, fun hp2 => ?_⟩
    · simp only [decide_eq_true_eq] at hp2
      refine ⟨⟨by omega, by omega, hy.isSome (by omega)⟩, _, hy2.get (by omega) (by omega), ⟨by omega, by omega, hx.isSome (by omega)⟩, _, hx2.get (by omega) (by omega), ?_⟩
      have w1 := hx2.getD_lt i.toNat
      have w2 := hy2.getD_lt i.toNat
      refine (bits_Add32_spec w1 w2 hk1).mono fun v V3 hle3 hv => ⟨_, _, hv, ⟨by omega, by omega⟩, by rw [ho, wv_length]; omega, ?_⟩
      rw [i64w (n := i + 1) (by omega) (by omega)]
      obtain ⟨a3, b3, l3, k3, g⟩ := step (((dig a2).getD i.toNat 0 + (dig b2).getD i.toNat 0 + k') % 4294967296) (((dig a2).getD i.toNat 0 + (dig b2).getD i.toNat 0 + k') / 4294967296) V3 hle3 (by omega) (by omega) (by omega)
      exact ⟨⟨a3, b3, l3, k3, g⟩, by show ((x.len : Int) - (i + 1)).toNat < ((x.len : Int) - i).toNat; omega⟩
    · simp only [decide_eq_false_iff_not] at hp2
      refine ⟨⟨by omega, by omega, hx.isSome (by omega)⟩, _, hx2.get (by omega) (by omega), ?_⟩
      have w1 := hx2.getD_lt i.toNat
      have w2 : (dig b2).getD i.toNat 0 = 0 := by simp only [List.getD]; rw [List.getElem?_eq_none (by omega)]; rfl
      refine (bits_Add32_spec w1 (by omega : 0 < 4294967296) hk1).mono fun v V3 hle3 hv => ⟨_, _, hv, ⟨by omega, by omega⟩, by rw [ho, wv_length]; omega, ?_⟩
      rw [i64w (n := i + 1) (by omega) (by omega)]
      obtain ⟨a3, b3, l3, k3, g⟩ := step (((dig a2).getD i.toNat 0 + 0 + k') % 4294967296) (((dig a2).getD i.toNat 0 + 0 + k') / 4294967296) V3 hle3 (by omega) (by omega) (by omega)
      exact ⟨⟨a3, b3, l3, k3, g⟩, by show ((x.len : Int) - (i + 1)).toNat < ((x.len : Int) - i).toNat; omega⟩
  · simp only [decide_eq_false_iff_not] at hp
    refine ⟨⟨by omega, by omega⟩, by rw [ho, wv_length]; omega, fun b1 V5 hle5 hb => ?_⟩
    have hi : i.toNat = x.len := by omega
    have hw : Words V5 (Sl.mk (some (Addr.mk b1 0 none)) (Int.toNat ((x.len : Int) + 1)) (Int.toNat ((x.len : Int) + 1))) (l.set x.len k') :=
      Words.of_block (by rw [hb, ho, show 0 + Int.toNat (x.len : Int) * 1 = x.len by omega, wv_set]) (by simp; omega) (Nat.le_refl _) (hwb.set (by omega))
    refine (num_trim_spec hw (by simp; omega)).mono fun v V6 _ ⟨r, hv, hr⟩ => ⟨r, hv, r, rfl, ?_⟩
    have e : wval (l.set x.len k') = a + b := by
      have h1 : (l.set x.len k') = (l.set x.len k').take (x.len + 1) := by rw [List.take_of_length_le]; simp; omega
      rw [h1, wval_take_set (by omega)]
      rw [hi, wval_take_all (l := dig a2) (by omega), wval_take_all (l := dig b2) (by omega), wval_dig, wval_dig] at hval
      omega
    rw [e] at hr; exact hr

end Go.Proofs.Ytcapadojlaojkaa

namespace Go.Vc
open Go Go.RowKit

/-- The value of words that are given by place. -/
def ws (f : Nat → Nat) : Nat → Nat
  | 0 => 0
  | n + 1 => ws f n + f n * 4294967296 ^ n
theorem ws_congr {f g : Nat → Nat} {n : Nat} (h : ∀ i, i < n → f i = g i) : ws f n = ws g n := by
  induction n with
  | zero => rfl
  | succ n ih => simp only [ws]; rw [ih (fun i hi => h i (by omega)), h n (by omega)]
theorem ws_take (l : List Nat) (n : Nat) : ws (fun i => l.getD i 0) n = wval (l.take n) := by
  induction n with
  | zero => simp [ws, wval]
  | succ n ih => rw [wval_take_succ, ← ih]; rfl
theorem ws_lt {f : Nat → Nat} {n : Nat} (h : ∀ i, i < n → f i < 4294967296) : ws f n < 4294967296 ^ n := by
  induction n with
  | zero => simp [ws]
  | succ n ih =>
    have h1 := ih (fun i hi => h i (by omega))
    have h2 := Nat.mul_le_mul_right (4294967296 ^ n) (Nat.succ_le_of_lt (h n (by omega)))
    simp only [ws, Nat.pow_succ]
    rw [Nat.succ_mul] at h2
    omega
theorem ws_add (f : Nat → Nat) (m n : Nat) : ws f (m + n) = ws f m + 4294967296 ^ m * ws (fun i => f (m + i)) n := by
  induction n with
  | zero => simp [ws]
  | succ n ih =>
    show ws f (m + n) + f (m + n) * 4294967296 ^ (m + n) = _
    rw [ih]; simp only [ws, Nat.pow_add, Nat.mul_add]; grind
/-- The value of the words from a place on, so many of them. -/
def seg (l : List Nat) (j k : Nat) : Nat := ws (fun i => l.getD (j + i) 0) k
theorem seg_zero (l : List Nat) (j : Nat) : seg l j 0 = 0 := rfl
theorem seg_succ (l : List Nat) (j k : Nat) : seg l j (k + 1) = seg l j k + l.getD (j + k) 0 * 4294967296 ^ k := rfl
theorem seg_take (l : List Nat) (k : Nat) : seg l 0 k = wval (l.take k) := by
  unfold seg; simp only [Nat.zero_add]; exact ws_take l k
theorem seg_all {l : List Nat} {k : Nat} (h : l.length ≤ k) : seg l 0 k = wval l := by rw [seg_take, wval_take_all h]
theorem seg_split (l : List Nat) (j m n : Nat) : seg l j (m + n) = seg l j m + 4294967296 ^ m * seg l (j + m) n := by
  unfold seg; rw [ws_add]
  congr 2
  exact ws_congr fun i _ => by rw [Nat.add_assoc]
theorem seg_lt {l : List Nat} (h : WB l) (j k : Nat) : seg l j k < 4294967296 ^ k := ws_lt fun i _ => h.getD _
theorem getD_set (l : List Nat) (p d i : Nat) : (l.set p d).getD i 0 = if i = p ∧ p < l.length then d else l.getD i 0 := by
  simp only [List.getD, List.getElem?_set]
  by_cases e : p = i
  · subst e
    by_cases h : p < l.length
    · simp [h]
    · simp [h, List.getElem?_eq_none (Nat.le_of_not_lt h)]
  · have e' : ¬ i = p := fun x => e x.symm
    simp [e, e']
theorem seg_set_out {l : List Nat} {p d j k : Nat} (h : p < j ∨ j + k ≤ p) : seg (l.set p d) j k = seg l j k := by
  refine ws_congr fun i hi => ?_
  rw [getD_set, if_neg (by omega)]
theorem seg_set_last {l : List Nat} {p d j k : Nat} (hp : p = j + k) (hl : p < l.length) : seg (l.set p d) j (k + 1) = seg l j k + d * 4294967296 ^ k := by
  rw [seg_succ, seg_set_out (by omega), getD_set, if_pos (by omega)]
theorem seg_set {l : List Nat} {p d j k : Nat} (h1 : j ≤ p) (h2 : p < j + k) (hl : p < l.length) : seg (l.set p d) j k + l.getD p 0 * 4294967296 ^ (p - j) = seg l j k + d * 4294967296 ^ (p - j) := by
  induction k with
  | zero => omega
  | succ k ih =>
    rcases Nat.lt_or_ge p (j + k) with h | h
    · have := ih h
      rw [seg_succ, seg_succ, getD_set, if_neg (by omega)]; omega
    · have e : p = j + k := by omega
      rw [seg_set_last e hl, seg_succ, show p - j = k by omega, ← e]; omega
theorem seg_rep (n j k : Nat) : seg (List.replicate n 0) j k = 0 := by
  induction k with
  | zero => rfl
  | succ k ih =>
    rw [seg_succ, ih]
    have : (List.replicate n 0).getD (j + k) 0 = 0 := by
      simp only [List.getD, List.getElem?_replicate]; split <;> rfl
    rw [this]; simp
/-- A guess that passes the test is too great by one at most. -/
theorem guess_le {B v1 v2 P V W guess rest top u0 : Nat} (hV : V ≤ (v1 * B + v2 + 1) * P) (hW : (top * B + u0) * P ≤ W)
    (hg : guess * v1 + rest = top) (hc : guess * v2 ≤ rest * B + u0) (hB : guess ≤ v1 * B + v2 + 1) : (guess - 1) * V ≤ W := by
  rcases Nat.eq_zero_or_pos guess with h0 | h0
  · subst h0; simp
  obtain ⟨g, rfl⟩ : ∃ g, guess = g + 1 := ⟨guess - 1, by omega⟩
  simp only [Nat.add_sub_cancel]
  have h1 : (g + 1) * (v1 * B + v2) ≤ top * B + u0 := by
    subst hg
    have : (g + 1) * (v1 * B + v2) = (g + 1) * v1 * B + (g + 1) * v2 := by grind
    have h2 : ((g + 1) * v1 + rest) * B = (g + 1) * v1 * B + rest * B := by grind
    omega
  have h2 : g * (v1 * B + v2 + 1) ≤ (g + 1) * (v1 * B + v2) := by
    have : g * (v1 * B + v2 + 1) = g * (v1 * B + v2) + g := by grind
    have h3 : (g + 1) * (v1 * B + v2) = g * (v1 * B + v2) + (v1 * B + v2) := by grind
    omega
  have h3 := Nat.mul_le_mul_left g hV
  have h4 := Nat.mul_le_mul_right P (Nat.le_trans h2 h1)
  have e : g * ((v1 * B + v2 + 1) * P) = g * (v1 * B + v2 + 1) * P := by grind
  omega
end Go.Vc

namespace Go.Vc
open Go
theorem wrap32_toNat (X : BitVec IntKind.u32.bits) : IntKind.u32.wrap (X.toNat : Int) = X.toNat := by
  have h : X.toNat < 4294967296 := X.isLt
  exact u32w (by omega) (by omega)
theorem ofInt_toNat' {w : Nat} (X : BitVec w) : BitVec.ofInt w (X.toNat : Int) = X := by
  rw [BitVec.ofInt_natCast, BitVec.ofNat_toNat, BitVec.setWidth_eq]
theorem of32 {n : Nat} (h : n < 4294967296) : (BitVec.ofInt 32 (n : Int)).toNat = n := by
  rw [BitVec.ofInt_natCast, BitVec.toNat_ofNat]; exact Nat.mod_eq_of_lt h
theorem of64 {n : Nat} (h : n < 18446744073709551616) : (BitVec.ofInt 64 (n : Int)).toNat = n := by
  rw [BitVec.ofInt_natCast, BitVec.toNat_ofNat]; exact Nat.mod_eq_of_lt h
theorem or64 {a b : Nat} (ha : a < 4294967296) (hb : b < 4294967296) :
    BitVec.toNat ((BitVec.ofInt IntKind.u64.bits (((b * 4294967296 : Nat)) : Int)) ||| (BitVec.ofInt IntKind.u64.bits ((a : Nat) : Int))) = b * 4294967296 + a := by
  have e : IntKind.u64.bits = 64 := rfl
  rw [e, BitVec.ofInt_natCast, BitVec.ofInt_natCast, BitVec.toNat_or, BitVec.toNat_ofNat, BitVec.toNat_ofNat, Nat.mod_eq_of_lt (by omega), Nat.mod_eq_of_lt (by omega)]
  have := Nat.two_pow_add_eq_or_of_lt (i := 32) (b := a) (by omega) b
  rw [show b * 4294967296 = 2 ^ 32 * b by omega, ← this]
theorem or64' {a b : Nat} (ha : a < 4294967296) (hb : b < 4294967296) :
    BitVec.toNat ((BitVec.ofInt IntKind.u64.bits ((a : Nat) : Int)) ||| (BitVec.ofInt IntKind.u64.bits (((b * 4294967296 : Nat)) : Int))) = b * 4294967296 + a := by
  rw [BitVec.or_comm]; exact or64 ha hb
theorem shr63 (X : BitVec IntKind.u32.bits) : Int.fdiv (X.toNat : Int) (2 ^ (min (Int.toNat 31) (IntKind.u32.bits))) = X.msb.toNat := by
  have e : (2 : Int) ^ (min (Int.toNat 31) (IntKind.u32.bits)) = 2147483648 := by decide
  have h : X.toNat < 4294967296 := X.isLt
  rw [e, Int.fdiv_eq_ediv_of_nonneg _ (by omega), BitVec.msb_eq_decide]
  have e2 : 2 ^ (IntKind.u32.bits - 1) = 2147483648 := by decide
  rw [e2]
  by_cases hx : 2147483648 ≤ X.toNat
  · simp [hx]; omega
  · simp [hx]; omega
theorem sub32_msb {x y b : Nat} (hx : x < 4294967296) (hy : y < 4294967296) (hb : b ≤ 1) (X Y D : BitVec 32) (hX : X.toNat = x) (hY : Y.toNat = y) (hD : D.toNat = (x + 8589934592 - y - b) % 4294967296) (M : BitVec 32) (hM : M = BitVec.allOnes 32) :
    (((M ^^^ X) &&& Y) ||| ((M ^^^ (X ^^^ Y)) &&& D)).msb.toNat = if x < y + b then 1 else 0 := by
  subst hM
  simp only [BitVec.msb_or, BitVec.msb_and, BitVec.msb_xor, BitVec.msb_allOnes (w := 32) (by omega)]
  simp only [BitVec.msb_eq_decide, hX, hY, hD]
  have e2 : 2 ^ (32 - 1) = 2147483648 := by decide
  rw [e2]
  by_cases h1 : 2147483648 ≤ x <;> by_cases h2 : 2147483648 ≤ y <;> by_cases h3 : 2147483648 ≤ (x + 8589934592 - y - b) % 4294967296 <;> simp [h1, h2, h3] <;> omega
theorem dig_getD (a i : Nat) : (dig a).getD i 0 = a / 4294967296 ^ i % 4294967296 := by
  induction i generalizing a with
  | zero =>
    by_cases h : a = 0
    · subst h; simp [dig_zero]
    · rw [dig_pos h]; simp
  | succ i ih =>
    by_cases h : a = 0
    · subst h; simp [dig_zero]
    · rw [dig_pos h, List.getD_cons_succ, ih, Nat.pow_succ, Nat.mul_comm, Nat.div_div_eq_div_mul]
/-- The number of bits. -/
def bl (n : Nat) : Nat := if n = 0 then 0 else Nat.log2 n + 1
theorem bl_zero : bl 0 = 0 := by simp [bl]
theorem lt_bl (n : Nat) : n < 2 ^ bl n := by
  unfold bl; split
  · omega
  · exact Nat.lt_log2_self
theorem bl_le {n : Nat} (h : n ≠ 0) : 2 ^ (bl n - 1) ≤ n := by
  simp only [bl, h, if_false, Nat.add_sub_cancel]; exact Nat.log2_self_le h
theorem bl_pos {n : Nat} (h : n ≠ 0) : 0 < bl n := by simp [bl, h]
theorem bl_eq {n k : Nat} (h1 : 2 ^ k ≤ n) (h2 : n < 2 ^ (k + 1)) : bl n = k + 1 := by
  have h0 : n ≠ 0 := by have := Nat.two_pow_pos k; omega
  have a1 := lt_bl n
  have a2 := bl_le h0
  have a3 := bl_pos h0
  have b1 : k < bl n := (Nat.pow_lt_pow_iff_right (a := 2) (by omega)).1 (Nat.lt_of_le_of_lt h1 a1)
  have b2 : bl n - 1 < k + 1 := (Nat.pow_lt_pow_iff_right (a := 2) (by omega)).1 (Nat.lt_of_le_of_lt a2 h2)
  omega
theorem bl_shift {n m : Nat} (k : Nat) (h0 : n ≠ 0) (h1 : n * 2 ^ k ≤ m) (h2 : m < (n + 1) * 2 ^ k) : bl m = bl n + k := by
  have a1 := lt_bl n
  have a2 := bl_le h0
  have a3 := bl_pos h0
  have e : bl n + k = (bl n - 1 + k) + 1 := by omega
  rw [e]
  refine bl_eq ?_ ?_
  · rw [Nat.pow_add]; exact Nat.le_trans (Nat.mul_le_mul_right _ a2) h1
  · rw [show bl n - 1 + k + 1 = bl n + k by omega, Nat.pow_add]; exact Nat.lt_of_lt_of_le h2 (Nat.mul_le_mul_right _ a1)
theorem bl_div {m : Nat} (k : Nat) (h : 2 ^ k ≤ m) : bl m = bl (m / 2 ^ k) + k := by
  have hp := Nat.two_pow_pos k
  have hd : 0 < m / 2 ^ k := Nat.div_pos h hp
  refine bl_shift k (by omega) (Nat.div_mul_le_self _ _) ?_
  have := Nat.lt_succ_iff.2 (Nat.le_refl (m / 2 ^ k))
  exact (Nat.div_lt_iff_lt_mul hp).1 this
theorem td32 (n : Nat) : Int.tdiv (n : Int) 32 = ((n / 32 : Nat) : Int) := (Int.ofNat_tdiv n 32).symm
theorem tm32 (n : Nat) : Int.tmod (n : Int) 32 = ((n % 32 : Nat) : Int) := (Int.ofNat_tmod n 32).symm
theorem orDisj {r h lo : Nat} (hh : h < 2 ^ r) : (h ||| lo * 2 ^ r) = h + lo * 2 ^ r := by
  have := Nat.two_pow_add_eq_or_of_lt hh lo
  rw [Nat.or_comm, show lo * 2 ^ r = 2 ^ r * lo by rw [Nat.mul_comm], ← this]; omega
theorem or32v {a b : Nat} (ha : a < 4294967296) (hb : b < 4294967296) :
    BitVec.toNat ((BitVec.ofInt IntKind.u32.bits ((a : Nat) : Int)) ||| (BitVec.ofInt IntKind.u32.bits ((b : Nat) : Int))) = a ||| b := by
  have e : IntKind.u32.bits = 32 := rfl
  rw [e, BitVec.ofInt_natCast, BitVec.ofInt_natCast, BitVec.toNat_or, BitVec.toNat_ofNat, BitVec.toNat_ofNat, Nat.mod_eq_of_lt (by omega), Nat.mod_eq_of_lt (by omega)]

end Go.Vc

namespace Go.Proofs.Ytcapadojlaojkaa
open Go Go.Vc Go.Proofs

theorem bits_Sub32_spec {V : View} {x y b : Nat} (hx : x < 4294967296) (hy : y < 4294967296) (hb : b ≤ 1) :
    CallV Try.prog n_bits_Sub32 #[.int .u32 (x : Int), .int .u32 (y : Int), .int .u32 (b : Int)] V fun v V' =>
      v = .tuple #[.int .u32 (((x + 8589934592 - y - b) % 4294967296 : Nat) : Int), .int .u32 ((if x < y + b then 1 else 0 : Nat) : Int)] := by
  refine bits_Sub32_vc _ _ _ V _ ?_
  have hd : IntKind.u32.wrap ((IntKind.u32.wrap ((x : Int) - y)) - b) = ((x + 8589934592 - y - b) % 4294967296 : Nat) := by
    rw [u32m, u32m]; omega
  rw [hd]
  simp only [wrap32_toNat, ofInt_toNat']
  rw [shr63]
  refine congrArg (fun n : Nat => Value.tuple #[_, .int .u32 (n : Int)]) (sub32_msb hx hy hb _ _ _ ?_ ?_ ?_ _ ?_)
  · exact of32 hx
  · exact of32 hy
  · exact of32 (Nat.mod_lt _ (by decide))
  · show BitVec.ofInt 32 4294967295 = _
    decide

theorem nat_sub_spec {V : View} {s t : Sl} {a b : Nat} (hs : NatAt V s a) (ht : NatAt V t b) (ha : wn a ≤ 2 ^ 45) (hba : b ≤ a) :
    CallV Try.prog n_nat_sub #[s.v, t.v] V fun v V' => ∃ r : Sl, v = r.v ∧ NatAt V' r (a - b) := by
  have hsl := hs.len
  have htl := ht.len
  have hwn := wn_mono hba
  simp only [wn] at ha hwn
  refine nat_sub_vc s t V _
    (fun _ x V' => ∃ l k : _, x.o11 = wv l ∧ WB l ∧ l.length = s.len ∧ x.t6 = (k : Nat) ∧ k ≤ 1 ∧ 0 ≤ x.t14 ∧ x.t14 ≤ s.len ∧
      wval (l.take x.t14.toNat) + wval ((dig b).take x.t14.toNat) = wval ((dig a).take x.t14.toNat) + k * 4294967296 ^ x.t14.toNat)
    (fun _ x _ => (s.len - x.t14).toNat) ⟨⟨by omega, by omega, by omega, by omega⟩, ⟨List.replicate s.len 0, 0, ?_, WB.zeros _, by simp, rfl, by omega, Int.le_refl _, by show (0 : Int) ≤ s.len; omega, by simp [wval]⟩, ?_⟩
  · show (List.replicate (Int.toNat (s.len : Int)) [Value.int .u32 0]).flatten = _
    rw [Int.toNat_natCast, wv_zeros]
  rintro ⟨k, i, o⟩ V2 hle2 ⟨l, k', ho, hwb, hl, hk, hk1, hi0, hi1, hval⟩
  simp only at ho hk hi0 hi1 hval hl ⊢
  subst hk
  have hx2 := hs.le hle2
  have hy2 := ht.le hle2
  refine ⟨fun hp => ?_, fun hp => ?_⟩
  · simp only [decide_eq_true_eq] at hp
    have step : ∀ (r c : Nat) (V3 : View), r + (dig b).getD i.toNat 0 + k' = (dig a).getD i.toNat 0 + c * 4294967296 → r < 4294967296 → c ≤ 1 →
        (∃ l k : _, List.set o (0 + Int.toNat i * 1) (.int .u32 (r : Nat)) = wv l ∧ WB l ∧ l.length = s.len ∧ (c : Int) = (k : Nat) ∧ k ≤ 1 ∧ 0 ≤ i + 1 ∧ i + 1 ≤ s.len ∧
          wval (l.take (i + 1).toNat) + wval ((dig b).take (i + 1).toNat) = wval ((dig a).take (i + 1).toNat) + k * 4294967296 ^ (i + 1).toNat) := by
      intro r c V3 hrc hr hc
      refine ⟨l.set i.toNat r, c, ?_, hwb.set hr, by simpa using hl, rfl, hc, by omega, by omega, ?_⟩
      · rw [ho, show 0 + Int.toNat i * 1 = i.toNat by omega, wv_set]
      · rw [show (i + 1).toNat = i.toNat + 1 by omega, wval_take_set (by omega), wval_take_succ, wval_take_succ, Nat.pow_succ]
        have := congrArg (· * 4294967296 ^ i.toNat) hrc
        simp only [Nat.add_mul] at this
        grind
    have w1 := hx2.getD_lt i.toNat
    have w2 := hy2.getD_lt i.toNat
    refine ⟨fun hp2 => ?_, fun hp2 => ?_⟩
    · simp only [decide_eq_true_eq] at hp2
      refine ⟨⟨by omega, by omega, ht.isSome (by omega)⟩, _, hy2.get (by omega) (by omega), ⟨by omega, by omega, hs.isSome (by omega)⟩, _, hx2.get (by omega) (by omega), ?_⟩
      refine (bits_Sub32_spec w1 w2 hk1).mono fun v V3 hle3 hv => ⟨_, _, hv, ⟨by omega, by omega⟩, by rw [ho, wv_length]; omega, ?_⟩
      rw [i64w (n := i + 1) (by omega) (by omega)]
      obtain ⟨l3, k3, g⟩ := step (((dig a).getD i.toNat 0 + 8589934592 - (dig b).getD i.toNat 0 - k') % 4294967296) (if (dig a).getD i.toNat 0 < (dig b).getD i.toNat 0 + k' then 1 else 0) V3 (by split <;> omega) (by omega) (by split <;> omega)
      exact ⟨⟨l3, k3, g⟩, by show ((s.len : Int) - (i + 1)).toNat < ((s.len : Int) - i).toNat; omega⟩
    · simp only [decide_eq_false_iff_not] at hp2
      refine ⟨⟨by omega, by omega, hs.isSome (by omega)⟩, _, hx2.get (by omega) (by omega), ?_⟩
      have w2 : (dig b).getD i.toNat 0 = 0 := by simp only [List.getD]; rw [List.getElem?_eq_none (by omega)]; rfl
      refine (bits_Sub32_spec w1 (by omega : 0 < 4294967296) hk1).mono fun v V3 hle3 hv => ⟨_, _, hv, ⟨by omega, by omega⟩, by rw [ho, wv_length]; omega, ?_⟩
      rw [i64w (n := i + 1) (by omega) (by omega)]
      obtain ⟨l3, k3, g⟩ := step (((dig a).getD i.toNat 0 + 8589934592 - 0 - k') % 4294967296) (if (dig a).getD i.toNat 0 < 0 + k' then 1 else 0) V3 (by split <;> omega) (by omega) (by split <;> omega)
      exact ⟨⟨l3, k3, g⟩, by show ((s.len : Int) - (i + 1)).toNat < ((s.len : Int) - i).toNat; omega⟩
  · simp only [decide_eq_false_iff_not] at hp
    intro b1 V5 hle5 hb
    have hi : i.toNat = s.len := by omega
    have hw : Words V5 (Sl.mk (some (Addr.mk b1 0 none)) (Int.toNat (s.len : Int)) (Int.toNat (s.len : Int))) l :=
      Words.of_block (by rw [hb, ho]) (by omega) (Nat.le_refl _) hwb
    refine (num_trim_spec hw (by omega)).mono fun v V6 _ ⟨r, hv, hr⟩ => ⟨r, hv, r, rfl, ?_⟩
    rw [hi, wval_take_all (l := dig a) (by omega), wval_take_all (l := dig b) (by omega), wval_take_all (by omega), wval_dig, wval_dig] at hval
    have h3 := wval_lt hwb
    have e : wval l = a - b := by
      rcases Nat.eq_zero_or_pos k' with h0 | h0
      · subst h0; omega
      · have : k' = 1 := by omega
        subst this
        rw [hl] at h3
        omega
    rw [e] at hr; exact hr

theorem mul_word {a b : Nat} (ha : a < 4294967296) (hb : b < 4294967296) : a * b ≤ 18446744065119617025 :=
  Nat.le_trans (Nat.mul_le_mul (Nat.le_of_lt_succ ha) (Nat.le_of_lt_succ hb)) (by decide)

theorem nat_mul_spec {V : View} {s t : Sl} {a b : Nat} (hs : NatAt V s a) (ht : NatAt V t b) (ha : wn a ≤ 2 ^ 44) (hb : wn b ≤ 2 ^ 44) :
    CallV Try.prog n_nat_mul #[s.v, t.v] V fun v V' => ∃ r : Sl, v = r.v ∧ NatAt V' r (a * b) := by
  have hsl := hs.len
  have htl := ht.len
  have hs0 : s.len = 0 → a = 0 := fun h => wn_eq_zero.1 (by simp only [wn]; omega)
  have ht0 : t.len = 0 → b = 0 := fun h => wn_eq_zero.1 (by simp only [wn]; omega)
  simp only [wn] at ha hb
  have zero : a * b = 0 → ∀ V', ∃ r : Sl, (Sl.mk none 0 0).v = r.v ∧ NatAt V' r (a * b) := fun h V' => ⟨_, rfl, by rw [h]; exact NatAt.zero V'⟩
  refine nat_mul_vc s t V _ (fun _ _ _ => True)
    (fun _ x _ => ∃ i l, x = L_nat_mul_1.mk (i : Nat) (wv l) ∧ i ≤ s.len ∧ WB l ∧ l.length = s.len + t.len ∧ seg l 0 (i + t.len) = wval ((dig a).take i) * b)
    (fun _ x _ => (s.len - x.t27).toNat)
    (fun c x _ => ∃ i k cr l, c = C_nat_mul_2.mk (i : Nat) ((dig a).getD i 0 : Nat) (i : Nat) ∧ i < s.len ∧ x = L_nat_mul_2.mk (cr : Nat) (k : Nat) (wv l) ∧ WB l ∧ l.length = s.len + t.len ∧ k ≤ t.len ∧ cr < 4294967296 ∧
      seg l 0 (i + t.len) + cr * 4294967296 ^ (i + k) = wval ((dig a).take i) * b + (dig a).getD i 0 * wval ((dig b).take k) * 4294967296 ^ i)
    (fun _ x _ => (t.len - x.t34).toNat)
    ⟨⟨fun h => ⟨fun _ => zero (by have h : (s.len : Int) = 0 := (by simpa using h); rw [hs0 (by omega)]; simp) _, fun h => by cases h⟩,
      fun _ => ⟨fun h => zero (by have h : (t.len : Int) = 0 := (by simpa using h); rw [ht0 (by omega)]; simp) _, fun _ => trivial⟩⟩, ?_⟩
  rintro _ V1 hle1 _
  rw [i64w (n := (s.len : Int) + t.len) (by omega) (by omega)]
  have hn : Int.toNat ((s.len : Int) + t.len) = s.len + t.len := by omega
  rw [hn]
  refine ⟨⟨by omega, by omega, by omega, by omega⟩, ⟨0, List.replicate (s.len + t.len) 0, ?_, by omega, WB.zeros _, by simp, ?_⟩, ?_⟩
  · rw [wv_zeros]; rfl
  · rw [seg_rep]; simp [wval]
  rintro _ V2 hle2 ⟨i, l, rfl, hi, hwb, hl, hval⟩
  refine ⟨fun hp => ?_, fun hp b1 V4 hle4 hb1 => ?_⟩
  · simp only [decide_eq_true_eq] at hp
    refine ⟨⟨by show (0 : Int) ≤ (i : Nat); omega, hp, hs.isSome (by omega)⟩, _, (hs.le (View.le_trans hle1 hle2)).get (by show (0 : Int) ≤ (i : Nat); omega) hp, ⟨i, 0, 0, l, rfl, by omega, rfl, hwb, hl, by omega, by omega, by simp [hval, wval]⟩, ?_⟩
    rintro _ V3 hle3 ⟨i', k, cr, l', hc, hi', rfl, hwb', hl', hk, hcr, hval'⟩
    obtain rfl : i = i' := by simp only [C_nat_mul_2.mk.injEq] at hc; omega
    have hbd := (WB_dig a).getD i
    simp only [Int.toNat_natCast]
    refine ⟨fun hq => ?_, fun hq => ?_⟩
    · simp only [decide_eq_true_eq] at hq
      have hbk := (WB_dig b).getD k
      have hwl := hwb'.getD (i + k)
      have hm := mul_word hbd hbk
      have hik : i + k < l'.length := by omega
      rw [i64w (n := (i : Int) + k) (by omega) (by omega), i64w (n := (k : Int) + 1) (by omega) (by omega)]
      have e1 : Int.toNat ((i : Int) + k) = i + k := by omega
      rw [e1]
      refine ⟨⟨by omega, hq, ht.isSome (by omega)⟩, _, (ht.le (View.le_trans hle1 (View.le_trans hle2 hle3))).get (by show (0 : Int) ≤ (k : Nat); omega) hq, ⟨by omega, by omega⟩, ((l'.getD (i + k) 0 : Nat) : Int), ?_, ⟨by omega, by omega⟩, ?_, ?_⟩
      · rw [show 0 + (i + k) * 1 = i + k by omega]; exact wv_get hik
      · rw [wv_length]; omega
      simp only [Int.toNat_natCast]
      rw [u64w (n := (((dig a).getD i 0 : Nat) : Int)) (by omega) (by omega), u64w (n := (((dig b).getD k 0 : Nat) : Int)) (by omega) (by omega), u64w (n := ((l'.getD (i + k) 0 : Nat) : Int)) (by omega) (by omega), ← Int.natCast_mul,
        u64w (n := (((dig a).getD i 0 * (dig b).getD k 0 : Nat) : Int)) (by omega) (by omega), u64w (n := (((dig a).getD i 0 * (dig b).getD k 0 : Nat) : Int) + ((l'.getD (i + k) 0 : Nat) : Int)) (by omega) (by omega), u64w (by omega) (by omega)]
      have e2 : (2 : Int) ^ (min (Int.toNat 32) (IntKind.u64.bits)) = 4294967296 := by decide
      rw [e2, Int.fdiv_eq_ediv_of_nonneg _ (by omega), u32m, show 0 + (i + k) * 1 = i + k by omega]
      generalize hm' : (dig a).getD i 0 * (dig b).getD k 0 = m at *
      generalize hd : cr + m + l'.getD (i + k) 0 = z
      have e3 : (cr : Int) + ((m : Int) + ((l'.getD (i + k) 0 : Nat) : Int)) = (z : Nat) := by omega
      rw [e3]
      have e4 : ((z : Nat) : Int) % 4294967296 = ((z % 4294967296 : Nat) : Int) := by omega
      have e5 : ((z : Nat) : Int) / 4294967296 = ((z / 4294967296 : Nat) : Int) := by omega
      rw [e4, e5, wv_set]
      refine ⟨⟨i, k + 1, z / 4294967296, l'.set (i + k) (z % 4294967296), rfl, by omega, by simp, hwb'.set (by omega), by simpa using hl', by omega, by omega, ?_⟩, by show ((t.len : Int) - ((k : Int) + 1)).toNat < ((t.len : Int) - k).toNat; omega⟩
      have h1 := seg_set (l := l') (p := i + k) (d := z % 4294967296) (j := 0) (k := i + t.len) (by omega) (by omega) hik
      rw [Nat.sub_zero] at h1
      rw [wval_take_succ, ← Nat.add_assoc, Nat.pow_succ]
      have h2 : z % 4294967296 + z / 4294967296 * 4294967296 = z := by omega
      have h3 := congrArg (· * 4294967296 ^ (i + k)) h2
      rw [← hd] at h3
      simp only [Nat.add_mul] at h3
      have h4 : (dig a).getD i 0 * ((dig b).getD k 0 * 4294967296 ^ k) * 4294967296 ^ i = m * 4294967296 ^ (i + k) := by rw [← hm', Nat.pow_add]; grind
      rw [← hd] at h1
      rw [Nat.mul_add, Nat.add_mul, h4, ← hd]
      have h5 : ∀ q, q * (4294967296 ^ (i + k) * 4294967296) = q * 4294967296 * 4294967296 ^ (i + k) := by intro q; grind
      rw [h5]
      omega
    · simp only [decide_eq_false_iff_not] at hq
      have hkt : k = t.len := by omega
      subst hkt
      rw [i64w (n := (i : Int) + t.len) (by omega) (by omega), i64w (n := (i : Int) + 1) (by omega) (by omega)]
      have e1 : Int.toNat ((i : Int) + t.len) = i + t.len := by omega
      rw [e1, show 0 + (i + t.len) * 1 = i + t.len by omega, u32w (by omega) (by omega), wv_set, wv_length]
      refine ⟨⟨by omega, by omega⟩, by omega, ⟨i + 1, l'.set (i + t.len) cr, by simp, by omega, hwb'.set hcr, by simpa using hl', ?_⟩, by show ((s.len : Int) - ((i : Int) + 1)).toNat < ((s.len : Int) - i).toNat; omega⟩
      rw [show i + 1 + t.len = i + t.len + 1 by omega, seg_set_last (by omega) (by omega), hval', wval_take_succ, wval_take_all (l := dig b) (by omega), wval_dig]
      grind
  · simp only [decide_eq_false_iff_not] at hp
    have hi' : i = s.len := by omega
    subst hi'
    rw [seg_all (by omega), wval_take_all (l := dig a) (by omega), wval_dig] at hval
    have hw : Words V4 (Sl.mk (some (Addr.mk b1 0 none)) (s.len + t.len) (s.len + t.len)) l := Words.of_block hb1 (by omega) (Nat.le_refl _) hwb
    refine (num_trim_spec hw (by omega)).mono fun v V6 _ ⟨r, hv, hr⟩ => ⟨r, hv, r, rfl, ?_⟩
    rw [hval] at hr; exact hr

end Go.Proofs.Ytcapadojlaojkaa
