/- What NewGrid of truths comes to, and the law of its limits. -/
import Derived.Test.YtnbjnokgmeamdaaCTr2
import Derived.Test.YtnbjnokgmeamdaaFGreat
namespace Go.Proofs.Ytnbjnokgmeamdaa
open Go Go.Vc Go.Proofs

/-- A row of so many cells. -/
structure RowOf (V : View) (s : Sl) (n : Nat) : Prop where
  len : s.len = n
  cap : s.len ≤ s.cap
  cells : ∃ l, V.has s.a l ∧ l.length = n
theorem RowOf.le {V V' : View} (hle : V.le V') {s : Sl} {n : Nat} (h : RowOf V s n) : RowOf V' s n := by
  obtain ⟨l, h1, h2⟩ := h.cells
  exact ⟨h.len, h.cap, l, View.has_le hle h1, h2⟩
def rowC (V : View) (x : List Value) (n : Nat) : Prop := ∃ s : Sl, x = [s.v] ∧ RowOf V s n
theorem rowC.le {V V' : View} (hle : V.le V') (x : List Value) (n : Nat) (h : rowC V x n) : rowC V' x n := by
  obtain ⟨s, e, hs⟩ := h; exact ⟨s, e, hs.le hle⟩
def RowsAt (V : View) (s : Sl) (ls : List Nat) : Prop := ListAt 1 rowC V s ls
theorem RowsAt.le {V V' : View} (hle : V.le V') {s : Sl} {ls : List Nat} (h : RowsAt V s ls) : RowsAt V' s ls := ListAt.le (rowC.le hle) hle h
theorem has_load {V : View} {p : Option Addr} {v : Value} (h : V.has p [v]) : V.load p = some v := by
  have := h 0 v rfl
  cases p with
  | none => exact this
  | some a => simpa [Addr.add] using this
theorem RowsAt.get {V : View} {s : Sl} {ls : List Nat} (h : RowsAt V s ls) {t : Int} (h0 : 0 ≤ t) {n : Nat} (hn : ls[t.toNat]? = some n) :
    ((0 : Int) ≤ t ∧ t < (s.len : Nat) ∧ Option.isSome s.a = true) ∧ ∃ r : Sl, V.load (Option.map (fun q => Addr.add q (Int.toNat t * 1)) s.a) = some r.v ∧ RowOf V r n := by
  obtain ⟨hb, x, ⟨r, e, hr⟩, _, h1, _⟩ := ListAt.get h h0 hn
  exact ⟨hb, r, has_load (e ▸ h1), hr⟩
theorem RowOf.none {V : View} {s : Sl} {n : Nat} (h : RowOf V s n) (ha : s.a = none) : n = 0 := by
  obtain ⟨l, h1, h2⟩ := h.cells
  cases l with
  | nil => simpa using h2.symm
  | cons v l =>
    have := h1 0 v rfl
    rw [ha] at this
    simp [View.load] at this

theorem Clone_bool_spec {V : View} {s : Sl} {n : Nat} (h : RowOf V s n) (hn : n ≤ 100) :
    CallV Try.prog n_slices_Clone___bool_bool_ #[s.v] V fun v V' => ∃ r : Sl, v = r.v ∧ RowOf V' r n := by
  obtain ⟨l, h1, h2⟩ := h.cells
  have hl := h.len
  refine slices_Clone___bool_bool__vc s V _ ⟨trivial, fun hnone => ?_, fun hsome => ?_⟩
  · have h0 := h.none (by simpa using hnone)
    subst h0
    exact ⟨_, rfl, rfl, Nat.le_refl _, [], by intro j v hj; simp at hj, rfl⟩
  · intro b V1 l1 hf hb
    refine ⟨rfl, [], l, by intro j v hj; simp at hj, rfl, View.has_le l1 h1, by omega, Nat.le_trans (show 0 + s.len ≤ 100 by omega) (show 100 ≤ maxLen by decide), by omega, fun a c V2 l2 hf2 hc hh _ => ⟨_, rfl, ?_, hc, l, hh, h2⟩⟩
    show 0 + s.len = n
    omega

def gridOk (ls : List Nat) : Prop := (1 ≤ ls.length ∧ ls.length ≤ 64) ∧ ∀ n ∈ ls, 1 ≤ n ∧ n ≤ 64 ∧ n = ls.headD 0

theorem NewGrid_bool_spec {V : View} {s : Sl} {ls : List Nat} (h : RowsAt V s ls) (hl : ls.length ≤ 100) :
    CallV Try.prog n_transform_NewGrid_bool_ #[s.v] V fun v V' =>
      (gridOk ls ∧ ∃ g : GridV, v = .tuple #[g.val, .int .i64 0] ∧ RowsAt V' g.rows ls) ∨ (¬ gridOk ls ∧ v = .tuple #[(GridV.mk (Sl.mk none 0 0)).val, .int .i64 4]) := by
  have hlen := h.len
  refine transform_NewGrid_bool__vc s V _ (fun _ _ _ => 1 ≤ ls.length ∧ ls.length ≤ 64)
    (fun _ x V' => ∃ l, (1 ≤ ls.length ∧ ls.length ≤ 64) ∧ x.t18 = x.o4_0l ∧ x.o4_0l ≤ ls.length ∧ LstOk 1 x.o4_0l x.o4_0c x.o45 l ∧ Cells 1 rowC V' l (ls.take x.o4_0l) ∧ ∀ n ∈ ls.take x.o4_0l, 1 ≤ n ∧ n ≤ 64 ∧ n = ls.headD 0)
    (fun _ x _ => ls.length - x.o4_0l) ⟨⟨fun h1 => ⟨fun _ => ?_, fun h => absurd h (by simp)⟩, fun h1 => ⟨fun h2 => ?_, fun h2 => ?_⟩⟩, ?_⟩
  · refine .inr ⟨fun hg => ?_, rfl⟩
    have := hg.1.1
    simp at h1; omega
  · refine .inr ⟨fun hg => ?_, rfl⟩
    have := hg.1.2
    simp at h2; omega
  · simp at h1 h2; omega
  rintro ⟨o2⟩ V1 l1 h1
  refine ⟨⟨[], h1, rfl, Nat.zero_le _, LstOk.nil, rfl, by intro n hn; simp at hn⟩, ?_⟩
  rintro ⟨t, o2, k, c, o⟩ V2 l2 ⟨l, _, ht, hk, hlo, hin, hall⟩
  dsimp only at ht hk hlo hin hall ⊢
  have hV2 := h.le (View.le_trans l1 l2)
  have h00 : ls[(0 : Int).toNat]? = some (ls.headD 0) := by
    cases ls with
    | nil => simp at h1
    | cons a r => rfl
  obtain ⟨hb0, x0, hx0, hr0⟩ := hV2.get (Int.le_refl 0) h00
  refine ⟨fun hlt => ?_, fun hge => ?_⟩
  · simp only [decide_eq_true_eq] at hlt
    have hkl : k < ls.length := by omega
    have hkt : t.toNat = k := by omega
    have hget : ls[t.toNat]? = some ls[k] := by rw [hkt]; simp [hkl]
    obtain ⟨hb, x6, hx6, hr6⟩ := hV2.get (t := t) (by omega) hget
    have hlen6 := hr6.len
    have hlen0 := hr0.len
    have bad : ¬ (1 ≤ ls[k] ∧ ls[k] ≤ 64 ∧ ls[k] = ls.headD 0) → ¬ gridOk ls := fun hb hg => hb (hg.2 _ (List.getElem_mem _))
    refine ⟨hb, x6, hx6, fun h1 => ⟨fun _ => ⟨fun _ => .inr ⟨bad ?_, rfl⟩, fun h => absurd h (by simp)⟩, fun h => absurd h (by simp)⟩, fun h1 => ⟨fun h2 => ⟨fun _ => .inr ⟨bad ?_, rfl⟩, fun h => absurd h (by simp)⟩, fun h2 => ⟨hb0, x0, hx0, fun h3 => .inr ⟨bad ?_, rfl⟩, fun h3 => ?_⟩⟩⟩
    · simp at h1; omega
    · simp at h2; omega
    · simp at h3; omega
    simp at h1 h2 h3
    refine (Clone_bool_spec hr6 (by omega)).mono fun v V3 l3 ⟨r, hv, hr⟩ => ⟨r, hv, fun b V4 l4 hf hb => ?_⟩
    refine ⟨l, [r.v], hlo, has_block hb, rfl, by intro v hv; simp at hv; subst hv; rfl, Nat.le_trans (show k + 1 ≤ 100 by omega) (show 100 ≤ maxLen by decide), by omega, fun c1 l3' hl3 => ⟨⟨_, by omega, ?_, by omega, hl3, ?_, ?_⟩, by omega⟩⟩
    · rw [i64w (by omega) (by omega)]; omega
    · rw [List.take_succ_eq_append_getElem hkl]
      exact Cells.append (Cells.imp (rowC.le (View.le_trans l3 l4)) hin) (Cells.one rfl ⟨r, rfl, hr.le l4⟩)
    · intro n hn
      rw [List.take_succ_eq_append_getElem hkl] at hn
      rcases List.mem_append.1 hn with hn | hn
      · exact hall n hn
      · simp at hn; subst hn
        omega
  · simp only [decide_eq_false_iff_not] at hge
    intro b V11 l11 hb
    have e : k = ls.length := by omega
    subst e
    rw [List.take_length] at hin hall
    exact .inl ⟨⟨h1, hall⟩, _, rfl, ListAt.of_lst hlo hb (Cells.imp (rowC.le l11) hin) rfl⟩

theorem Size_bool_spec {V : View} {g : GridV} {ls : List Nat} (h : RowsAt V g.rows ls) :
    CallV Try.prog n__transform_Grid_bool___Size #[g.val] V fun v V' => v = .tuple #[.int .i64 (ls.length : Int), .int .i64 (ls.headD 0 : Nat)] := by
  have hl := h.len
  refine m_transform_Grid_bool___Size_vc g V _ ⟨fun h0 => ?_, fun h0 => ?_⟩
  · have h0 : g.rows.len = 0 := by have : (g.rows.len : Int) = 0 := (by simpa using h0); omega
    have : ls = [] := by apply List.eq_nil_of_length_eq_zero; omega
    subst this; rfl
  · cases ls with
    | nil => simp [hl] at h0
    | cons a r =>
      obtain ⟨hb, x, hx, hr⟩ := h.get (t := 0) (Int.le_refl 0) (n := a) rfl
      refine ⟨hb, x, hx, ?_⟩
      rw [hl, hr.len]; rfl

theorem replicate_set {n k m : Nat} (h : k < n) : (List.replicate k m ++ List.replicate (n - k) 0).set k m = List.replicate (k + 1) m ++ List.replicate (n - (k + 1)) 0 := by
  rw [List.set_append_right _ _ (by simp)]
  simp only [List.length_replicate, Nat.sub_self]
  have : n - k = (n - (k + 1)) + 1 := by omega
  rw [this, List.replicate_succ, List.set_cons_zero, List.replicate_succ']
  simp

theorem TransformGreat_spec {V : View} {p0 p1 : Int} {p2 : Bool} (a0 : 0 ≤ p0) (a1 : p0 ≤ 255) (b0 : 0 ≤ p1) (b1 : p1 ≤ 255) :
    CallV Try.prog n_waveportlaw07_TransformGreat #[.int .u8 p0, .int .u8 p1, .bool p2] V fun v V' => v = .bool true := by
  obtain ⟨n, hn, hn70⟩ : ∃ n : Nat, Int.tmod (IntKind.i64.wrap p0) 70 = n ∧ n < 70 := by
    rw [i64w (by omega) (by omega), Int.tmod_eq_emod_of_nonneg a0]
    exact ⟨(p0 % 70).toNat, by omega, by omega⟩
  obtain ⟨m, hm, hm70⟩ : ∃ m : Nat, Int.tmod (IntKind.i64.wrap p1) 70 = m ∧ m < 70 := by
    rw [i64w (by omega) (by omega), Int.tmod_eq_emod_of_nonneg b0]
    exact ⟨(p1 % 70).toNat, by omega, by omega⟩
  let cut : Bool := p2 && (decide ((n : Int) > 1) && decide ((m : Int) > 0))
  let lens : List Nat := if cut = true then (List.replicate n m).set (n - 1) (m - 1) else List.replicate n m
  let right : Bool := decide ((n : Int) ≥ 1) && (decide ((n : Int) ≤ 64) && (decide ((m : Int) ≥ 1) && (decide ((m : Int) ≤ 64) && !(p2 && decide ((n : Int) > 1)))))
  have hlen : lens.length = n := by simp only [lens]; split <;> simp
  have hcut : right = true → cut = false := by
    simp only [right, cut]; cases p2 <;> simp <;> omega
  have hok : right = true → gridOk lens := by
    intro hr
    have hl : lens = List.replicate n m := by simp only [lens]; rw [if_neg (by rw [hcut hr]; simp)]
    simp [right] at hr
    rw [hl]
    refine ⟨by simp; omega, fun k hk => ?_⟩
    have hk := (List.mem_replicate.1 hk).2
    obtain ⟨n', rfl⟩ : ∃ n', n = n' + 1 := ⟨n - 1, by omega⟩
    rw [List.replicate_succ, List.headD_cons]; omega
  have hno : right = false → ¬ gridOk lens := by
    intro hr hg
    obtain ⟨⟨g1, g2⟩, g3⟩ := hg
    rw [hlen] at g1 g2
    by_cases hc : cut = true
    · have hl : lens = (List.replicate n m).set (n - 1) (m - 1) := by simp only [lens]; rw [if_pos hc]
      simp [cut] at hc
      have hh := (g3 (m - 1) (by rw [hl]; exact List.mem_set (by simp; omega) _)).2.2
      obtain ⟨n', rfl⟩ : ∃ n', n = n' + 2 := ⟨n - 2, by omega⟩
      rw [hl] at hh
      have e : n' + 2 - 1 = n' + 1 := by omega
      rw [e, List.replicate_succ, List.set_cons_succ, List.headD_cons] at hh
      omega
    · have hl : lens = List.replicate n m := by simp only [lens]; rw [if_neg hc]
      have := g3 m (by rw [hl]; simp; omega)
      have hp : p2 = true ∨ p2 = false := by cases p2 <;> simp
      rcases hp with hp | hp <;> simp [cut, hp] at hc <;> simp [right, hp] at hr <;> omega
  have hhead : right = true → lens.headD 0 = m := by
    intro hr
    have hl : lens = List.replicate n m := by simp only [lens]; rw [if_neg (by rw [hcut hr]; simp)]
    simp [right] at hr
    obtain ⟨n', rfl⟩ : ∃ n', n = n' + 1 := ⟨n - 1, by omega⟩
    rw [hl, List.replicate_succ, List.headD_cons]
  refine waveportlaw07_TransformGreat_vc p0 p1 p2 V _
    (fun _ x V' => 0 ≤ x.t26 ∧ x.t26 ≤ n ∧ Cells 1 rowC V' x.o23 (List.replicate x.t26.toNat m ++ List.replicate (n - x.t26.toNat) 0)) (fun _ x _ => n - x.t26.toNat)
    (fun _ x V' => Cells 1 rowC V' x.o23 lens) (fun c x V' => x.t43 = cut ∧ Cells 1 rowC V' c.o23 (List.replicate n m)) (fun _ x _ => x.t15 = right) ?_
  rw [hn, hm]
  simp only [Int.toNat_natCast]
  refine ⟨⟨by omega, by omega, by omega, by omega⟩, ⟨Int.le_refl 0, Int.natCast_nonneg _, ?_⟩, ?_⟩
  · show Cells 1 rowC V ((List.replicate n [Value.slice none 0 0]).flatten) (List.replicate 0 m ++ List.replicate (n - 0) 0)
    rw [List.replicate_zero, List.nil_append, Nat.sub_zero]
    have hrow : rowC V [.slice none 0 0] 0 := ⟨Sl.mk none 0 0, rfl, rfl, Nat.le_refl _, [], by intro j v hj; simp at hj, rfl⟩
    exact Cells.replicate rfl hrow n
  rintro ⟨t, o⟩ V1 l1 ⟨h0, h1, hin⟩
  dsimp only at h0 h1 hin ⊢
  refine ⟨fun hlt => ⟨⟨by omega, by omega, by omega, by omega⟩, fun b V2 l2 hf hb => ?_⟩, fun hge => ⟨⟨?_, ?_⟩, ?_⟩⟩
  · simp only [decide_eq_true_eq] at hlt
    have hi : t.toNat < (List.replicate t.toNat m ++ List.replicate (n - t.toNat) 0).length := by simp; omega
    have e1 : IntKind.i64.wrap (t + 1) = t + 1 := i64w (by omega) (by omega)
    have e2 : (t + 1).toNat = t.toNat + 1 := by omega
    refine ⟨⟨h0, hlt⟩, Cells.room hin hi, ⟨by rw [e1]; omega, by rw [e1]; omega, ?_⟩, by rw [e1]; omega⟩
    rw [e1, e2, ← replicate_set (by omega)]
    have hrow : rowC V2 [.slice (some (Addr.mk b 0 none)) m m] m := ⟨Sl.mk (some (Addr.mk b 0 none)) m m, rfl, rfl, Nat.le_refl _, (List.replicate m [Value.bool false]).flatten, has_block hb, by simp⟩
    exact Cells.set0 (Cells.imp (rowC.le l2) hin) hi rfl hrow
  all_goals simp only [decide_eq_false_iff_not] at hge
  all_goals have et : t.toNat = n := by omega
  all_goals rw [et, Nat.sub_self, List.replicate_zero, List.append_nil] at hin
  · refine ⟨fun hp => ⟨fun h1 => ⟨?_, hin⟩, fun h1 => ⟨?_, hin⟩⟩, fun hp => ⟨fun h => absurd h (by simp), fun _ => ⟨?_, hin⟩⟩⟩
    · show decide ((m : Int) > 0) = cut
      simp only [cut, hp, h1, Bool.true_and]
    · show false = cut
      simp only [cut, h1, Bool.false_and, Bool.and_false]
    · show false = cut
      simp only [cut, hp, Bool.false_and]
  · rintro ⟨t43⟩ V4 l4 ⟨hc, hin4⟩
    dsimp only at hc hin4 ⊢
    subst hc
    refine ⟨fun hc => ?_, fun hc => ?_⟩
    · have hl : lens = (List.replicate n m).set (n - 1) (m - 1) := by simp only [lens]; rw [if_pos hc]
      have hc' := hc
      simp [cut] at hc'
      have e1 : IntKind.i64.wrap ((n : Int) - 1) = ((n - 1 : Nat) : Int) := by rw [i64w (by omega) (by omega)]; omega
      have e2 : IntKind.i64.wrap ((m : Int) - 1) = ((m - 1 : Nat) : Int) := by rw [i64w (by omega) (by omega)]; omega
      rw [e1, e2]
      simp only [Int.toNat_natCast]
      obtain ⟨x, ⟨s, e, hs⟩, _, hg⟩ := Cells.get hin4 (i := n - 1) (z := m) (by rw [List.getElem?_replicate, if_pos (by omega)])
      have hg0 := hg 0 s.v (by rw [e]; rfl)
      have hsl := hs.len
      have hsc := hs.cap
      obtain ⟨l, hl1, hl2⟩ := hs.cells
      have hi : n - 1 < (List.replicate n m).length := by simp; omega
      have ea : (if s.cap = Int.toNat 0 then s.a else Option.map (fun q => Addr.add q (Int.toNat 0 * 1)) s.a) = s.a := by
        split
        · rfl
        · cases s.a <;> simp [Addr.add]
      have hrow : rowC V4 [.slice (if s.cap = Int.toNat 0 then s.a else Option.map (fun q => Addr.add q (Int.toNat 0 * 1)) s.a) (m - 1 - Int.toNat 0) (s.cap - Int.toNat 0)] (m - 1) := by
        rw [ea]
        refine ⟨Sl.mk s.a (m - 1 - Int.toNat 0) (s.cap - Int.toNat 0), rfl, by show m - 1 - 0 = m - 1; omega, by show m - 1 - 0 ≤ s.cap - 0; omega, l.take (m - 1), ?_, by rw [List.length_take]; omega⟩
        intro j v hj
        refine hl1 j v ?_
        rw [List.getElem?_take] at hj
        split at hj
        · exact hj
        · simp at hj
      refine ⟨⟨by omega, by omega⟩, s, by simpa using hg0, ⟨Int.le_refl 0, by omega, by omega⟩, ⟨by omega, by omega⟩, Cells.room hin4 hi, ?_⟩
      rw [hl]
      exact Cells.set0 hin4 hi rfl hrow
    · have hl : lens = List.replicate n m := by simp only [lens]; rw [if_neg (by rw [hc]; simp)]
      rw [hl]; exact hin4
  · rintro ⟨o4⟩ V3 l3 hin3
    dsimp only at hin3 ⊢
    intro b V5 l5 hb
    have hrows : RowsAt V5 (Sl.mk (some (Addr.mk b 0 none)) n n) lens := ListAt.of_made hb (Cells.imp (rowC.le l5) hin3) hlen.symm
    refine (NewGrid_bool_spec hrows (by omega)).mono fun v V6 l6 hv => ?_
    have fin : ∀ (r2 r3 r4 : Int) (V7 : View), (right = true ∧ r2 = 0 ∧ r3 = n ∧ r4 = m) ∨ (right = false ∧ r2 = 4 ∧ r3 = 0 ∧ r4 = 0) → True := fun _ _ _ _ _ => trivial
    rcases hv with ⟨hg, g, hv, hgr⟩ | ⟨hg, hv⟩
    · have hr : right = true := by
        cases h : right
        · exact absurd hg (hno h)
        · rfl
      refine ⟨g, 0, hv, (Size_bool_spec hgr).mono fun v V7 l7 hv => ⟨_, _, hv, ?_, ?_⟩⟩
      · have hd : ∀ a : Bool, a = true ∨ a = false := by intro a; cases a <;> simp
        rcases hd (decide ((n : Int) ≥ 1)) with q1 | q1 <;> rcases hd (decide ((n : Int) ≤ 64)) with q2 | q2 <;> rcases hd (decide ((m : Int) ≥ 1)) with q3 | q3 <;> rcases hd (decide ((m : Int) ≤ 64)) with q4 | q4 <;> rcases hd p2 with q5 | q5 <;>
          simp only [right, q1, q2, q3, q4, q5, Bool.true_and, Bool.false_and, Bool.and_true, Bool.and_false, Bool.false_eq_true, false_implies, true_implies, implies_true, and_true, true_and, and_self, Bool.true_eq_false, Bool.not_false]
      · rintro ⟨t15⟩ V8 l8 hI
        dsimp only at hI ⊢
        rw [hI, hr, hlen, hhead hr]
        exact ⟨fun h => absurd h (by simp), fun _ => ⟨fun _ => ⟨fun _ => ⟨fun _ => awake_spec.mono fun v V9 _ hv => ⟨_, hv, rfl⟩, fun h => absurd h (by simp)⟩, fun h => absurd h (by simp)⟩, fun h => absurd h (by simp)⟩⟩
    · have hr : right = false := by
        cases h : right
        · rfl
        · exact absurd (hok h) hg
      refine ⟨_, 4, hv, (Size_bool_spec (ls := []) (g := GridV.mk (Sl.mk none 0 0)) ListAt.nil).mono fun v V7 l7 hv => ⟨_, _, hv, ?_, ?_⟩⟩
      · have hd : ∀ a : Bool, a = true ∨ a = false := by intro a; cases a <;> simp
        rcases hd (decide ((n : Int) ≥ 1)) with q1 | q1 <;> rcases hd (decide ((n : Int) ≤ 64)) with q2 | q2 <;> rcases hd (decide ((m : Int) ≥ 1)) with q3 | q3 <;> rcases hd (decide ((m : Int) ≤ 64)) with q4 | q4 <;> rcases hd p2 with q5 | q5 <;>
          simp only [right, q1, q2, q3, q4, q5, Bool.true_and, Bool.false_and, Bool.and_true, Bool.and_false, Bool.false_eq_true, false_implies, true_implies, implies_true, and_true, true_and, and_self, Bool.true_eq_false, Bool.not_false]
      · rintro ⟨t15⟩ V8 l8 hI
        dsimp only at hI ⊢
        rw [hI, hr]
        exact ⟨fun _ => ⟨fun _ => ⟨fun _ => ⟨fun _ => awake_spec.mono fun v V9 _ hv => ⟨_, hv, rfl⟩, fun h => absurd h (by simp)⟩, fun h => absurd h (by simp)⟩, fun h => absurd h (by simp)⟩, fun h => absurd h (by simp)⟩
end Go.Proofs.Ytnbjnokgmeamdaa
