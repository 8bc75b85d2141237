/- A slice of plain numbers that came in, as known memory. -/
import Derived.Test.YtnbjnokgmeamdaaVLift
import Derived.Test.YtnbjnokgmeamdaaCTr1
import Derived.Deep.Slices
namespace Go.Proofs.Ytnbjnokgmeamdaa
open Go Go.Vc Go.Proofs Go.ChangeShapes Go.RowKit

/-- What is to be known of the type of plain numbers. -/
structure RatTy (P : Program) (t : TypeId) : Prop where
  fields : ∃ f0 f1 f2 : Field, P.underlying t = some (.struct #[f0, f1, f2]) ∧ (f0.offset = 0 ∧ f1.offset = 1 ∧ f2.offset = 2) ∧
    (P.underlying f0.type = some (.int .i64) ∧ P.underlying f1.type = some (.int .i64) ∧ P.underlying f2.type = some (.int .i64)) ∧ (P.cellsOf f0.type = 1 ∧ P.cellsOf f1.type = 1 ∧ P.cellsOf f2.type = 1)
  cells : P.cellsOf t = 3

section
variable {H : Type} {enc : TypeId × Value → H} {P : Program} {w : World} {base : Nat} {spare : Nat → Bool} {held : Bool}

theorem trod_rat {t : TypeId} {fuel : Nat} {cs : List Value} {x : DataW H × List MemPlace} (ht : RatTy P t) (h : DataW.trod enc P w base spare held fuel t cs = some x) : ∃ r : RatV, ratI r ∧ cs = r.val.cells.toList := by
  obtain ⟨f0, f1, f2, hR, ⟨o0, o1, o2⟩, ⟨i0, i1, i2⟩, c0, c1, c2⟩ := ht.fields
  obtain ⟨xs, n, _, _, hl, hxs, hf⟩ := DataW.trod_struct hR h
  rw [ht.cells] at hl
  match cs, hl with
  | [a, b, c], _ =>
    have g0 := hf 0 f0 rfl
    have g1 := hf 1 f1 rfl
    have g2 := hf 2 f2 rfl
    rw [o0, c0] at g0
    rw [o1, c1] at g1
    rw [o2, c2] at g2
    have hs : xs.length = 3 := hxs
    match xs, hs with
    | [y0, y1, y2], _ =>
      obtain ⟨n0, e0, _, w0⟩ := DataW.trod_int i0 g0
      obtain ⟨n1, e1, _, w1⟩ := DataW.trod_int i1 g1
      obtain ⟨n2, e2, _, w2⟩ := DataW.trod_int i2 g2
      simp at e0 e1 e2
      subst e0; subst e1; subst e2
      exact ⟨⟨n0, n1, n2⟩, ⟨bounds_i64 w0, bounds_i64 w1, bounds_i64 w2⟩, rfl⟩

/-- The block of an argument, known. -/
def blockView (w : World) (b : Nat) : View := fun i => if i = b then (match w.heap[b]? with | some (.cells cs _ _) => some cs | _ => none) else none
theorem blockView_in (w : World) (b : Nat) : (blockView w b).In w := by
  intro i cs hi
  unfold blockView at hi
  split at hi
  · rename_i e; subst e
    split at hi
    · rename_i cs' T fr hw
      simp at hi; subst hi
      exact ⟨T, fr, hw⟩
    · simp at hi
  · simp at hi
theorem blockView_load {w : World} {p : Addr} {v : Value} (h : w.cell? p = some v) : (blockView w p.block).load (some p) = some v := by
  unfold World.cell? at h
  unfold View.load blockView
  split at h
  · rename_i c T fr hw
    simp only [hw, if_true]
    split at h
    · simp at h
    · rename_i hs
      simp only [hs]
      simpa using h
  · simp at h

theorem add_block (a : Addr) (n : Nat) : (a.add n).block = a.block := by unfold Addr.add; split <;> rfl

theorem open_rats {t e : TypeId} {v : Value} {d : DataW H} {ps : List MemPlace} (ht : P.underlying t = some (.slice e)) (he : RatTy P e) (hv : ∃ a l c, v = .slice a l c) (h : DataW.Trod enc P w 0 spare held t v d ps) :
    ∃ (s : Sl) (rs : List RatV) (V : View), v = s.v ∧ V.In w ∧ RatsAt V s rs ∧ rs.length ≤ maxLen ∧ ∀ r ∈ rs, ratI r := by
  obtain ⟨a0, l0, c0, rfl⟩ := hv
  obtain ⟨fuel, h⟩ := h
  rcases Go.Deep.open_slice ht h with ⟨h1, _⟩ | ⟨a, len, cap, m, n, D, Pl, h1, _, hl, hm, hmm, _, hx⟩
  · have h1 : (Value.slice a0 l0 c0) = .slice none 0 0 := by simpa [Value.cells] using h1
    injection h1 with e1 e2 e3
    subst e1; subst e2; subst e3
    exact ⟨Sl.mk none 0 0, [], fun _ => none, rfl, fun b cs hb => by simp at hb, ListAt.nil, Nat.zero_le _, by intro r hr; simp at hr⟩
  · have h1 : (Value.slice a0 l0 c0) = .slice (some a) len cap := by simpa [Value.cells] using h1
    injection h1 with e1 e2 e3
    subst e1; subst e2; subst e3
    have hlm : l0 ≤ m := by rw [hmm]; split <;> omega
    have key : ∀ k, k ≤ l0 → ∃ (rs : List RatV) (o : List Value), rs.length = k ∧ (∀ r ∈ rs, ratI r) ∧ Cells 3 ratC (blockView w a.block) o rs ∧ (blockView w a.block).has (some a) o := by
      intro k
      induction k with
      | zero => intro _; exact ⟨[], [], rfl, by intro r hr; simp at hr, rfl, by intro j v hj; simp at hj⟩
      | succ k ih =>
        intro hk
        obtain ⟨rs, o, hrl, hri, hc, ho⟩ := ih (by omega)
        obtain ⟨cs', g1, g2⟩ := hx k (by omega)
        obtain ⟨r, hr, er⟩ := trod_rat he g2
        rw [he.cells] at g1
        obtain ⟨_, hcl, hcell⟩ := World.cells?_some g1
        have hol := hc.length
        refine ⟨rs ++ [r], o ++ cs', by simp [hrl], ?_, hc.append (Cells.one hcl er), ?_⟩
        · intro x hx
          rcases List.mem_append.1 hx with h | h
          · exact hri x h
          · simp at h; subst h; exact hr
        · intro j v hj
          by_cases hjo : j < o.length
          · rw [List.getElem?_append_left hjo] at hj
            exact ho j v hj
          · rw [List.getElem?_append_right (by omega)] at hj
            have hj3 : j - o.length < 3 := by
              rcases Nat.lt_or_ge (j - o.length) cs'.length with h | h
              · omega
              · rw [List.getElem?_eq_none h] at hj; simp at hj
            have hcj := hcell (j - o.length) hj3
            rw [hj, addr_add2] at hcj
            have e : k * 3 + (j - o.length) = j := by rw [hol, hrl]; omega
            rw [e] at hcj
            have := blockView_load hcj
            rw [add_block] at this
            exact this
    obtain ⟨rs, o, hrl, hri, hc, ho⟩ := key l0 (Nat.le_refl _)
    exact ⟨Sl.mk (some a) l0 c0, rs, blockView w a.block, rfl, blockView_in w a.block, ⟨hrl.symm, hl, fun _ => rfl, o, ho, hc⟩, by omega, hri⟩
end

/-- A plain number that came in. -/
theorem open_rat {H : Type} {enc : TypeId × Value → H} {P : Program} {w : World} {base : Nat} {spare : Nat → Bool} {held : Bool} {e : TypeId} {v : Value} {d : DataW H} {ps : List MemPlace} (he : RatTy P e)
    (h : DataW.Trod enc P w base spare held e v d ps) : ∃ r : RatV, ratI r ∧ v = r.val := by
  obtain ⟨fuel, h⟩ := h
  obtain ⟨r, hr, e1⟩ := trod_rat he h
  refine ⟨r, hr, ?_⟩
  cases v with
  | agg cs =>
    have e2 : cs.toList = [.int .i64 r.re, .int .i64 r.im, .int .i64 r.den] := e1
    have : cs = #[.int .i64 r.re, .int .i64 r.im, .int .i64 r.den] := by rw [← Array.toList_inj]; exact e2
    rw [this]; rfl
  | _ => exact absurd (congrArg List.length e1) (by simp [Value.cells, RatV.val])

/-- A call whose answer is known in a world that fits. -/
theorem CallV.fits {P : Program} {f : FuncId} {args : Array Value} {r : Value} {V : View} (h : CallV P f args V fun v _ => v = r) {w : World} (hw : V.In w) :
    Calls P f args w fun e w' => e = .returned r ∧ Below w.heap.size w w' :=
  (h w hw).mono fun _ _ ⟨_, _, he, _, _, _, hb, hr⟩ => ⟨by rw [he, hr], hb⟩

theorem trodAll_below {H : Type} {enc : TypeId × Value → H} {P : Program} (hl : laidOutB P = true) {W W' : World} (hb : Below W.heap.size W W') :
    ∀ {ts : List TypeId} {vs : List Value} {ds : List (DataW H)} {ps : List MemPlace}, (∀ t ∈ ts, P.readableRec t = true ∧ t < P.types.size) → (∀ p ∈ ps, p.block < W.heap.size) →
    DataW.TrodAll enc P W 0 (fun _ => true) true ts vs ds ps → DataW.TrodAll enc P W' 0 (fun b => decide (b < W.heap.size)) true ts vs ds ps
  | [], [], [], _, _, _, h => h
  | t :: ts, v :: vs, d :: ds, ps, ht, hlt, ⟨p, q, h1, h2, e⟩ => by
    subst e
    exact ⟨p, q, Below.trod hl (ht t (by simp)).1 (ht t (by simp)).2 h1 hb (fun x hx => hlt x (by simp [hx])),
      trodAll_below hl hb (fun t' ht' => ht t' (by simp [ht'])) (fun x hx => hlt x (by simp [hx])) h2, rfl⟩
  | [], [], _ :: _, _, _, _, h => h.elim
  | [], _ :: _, _, _, _, _, h => h.elim
  | _ :: _, [], _, _, _, _, h => h.elim
  | _ :: _, _ :: _, [], _, _, _, h => h.elim

/-- What is to be shown of a run that only read its arguments. -/
theorem post_of_read {H : Type} {enc : TypeId × Value → H} {P : Program} {f : Func} {s : ChangeSpec} {apart fresh handsOn : Bool} {W W' : World} {args : Array Value} {v : Value} {ds : List (DataW H)} {before : List MemPlace}
    (hl : laidOutB P = true) (ht : ∀ t ∈ f.params.toList, P.readableRec t = true ∧ t < P.types.size)
    (hW : DataW.Whole enc P f.params.toList s.vars apart W args.toList ds [] before) (hA : DataW.TrodAll enc P W 0 (fun _ => true) true f.params.toList args.toList ds before)
    (hres : ∀ (b : Nat) (sp : Nat → Bool) (hd : Bool), DataW.TrodAll enc P W' b sp hd f.resultTypes.toList (v.resultList f.resultTypes.size) (s.fn H (ds ++ [])).results [])
    (hargs : (s.fn H (ds ++ [])).args = ds) (hvars : ∀ sp : Nat → Bool, DataW.TrodVars enc P W' sp s.vars (s.fn H (ds ++ [])).vars []) (hb : Below W.heap.size W W') : s.post enc P f apart fresh handsOn false W args v W' := by
  refine ⟨ds, [], before, [], before, [], hW, hres _ _ _, ?_, hvars _, World.keptBut_mono (fun p hp => ⟨hp, .inr (.inl hp)⟩) (hb.frame (· ∈ before)), fun h => Bool.noConfusion h⟩
  rw [hargs]
  exact trodAll_below hl hb ht (fun p hp => hW.lt p hp) hA
end Go.Proofs.Ytnbjnokgmeamdaa
