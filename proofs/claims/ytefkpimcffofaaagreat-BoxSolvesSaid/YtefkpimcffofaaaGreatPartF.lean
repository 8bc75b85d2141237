/- Part. -/
import Derived.Test.YtefkpimcffofaaaGreatPartE
import Derived.Laws.StructEq
namespace Go.Proofs.YtefkpimcffofaaaGreat
open Go Go.Vc Go.Proofs
open Go.Proofs.Tryz (prog)
theorem s0l {r : RatV} (h : ratI r) : (ratQ r).sz ≤ 64 := by
 obtain ⟨⟨a, b⟩, ⟨c, d⟩, e, f⟩ := h
 have key : Rep (ratQ r) (if r.den < 0 then -r.re else r.re) (if r.den < 0 then -r.im else r.im) (if r.den = 0 then 1 else r.den.natAbs) := by
  unfold ratQ
  split
  · rename_i h0
    have : ¬ r.den < 0 := by omega
    rw [if_neg this, if_neg this]
    refine ⟨by omega, ?_, ?_⟩ <;> simp only [] <;> rw [Rat.div_def] <;> simp <;> grind
  · by_cases hn : r.den < 0
    · rw [if_pos hn, if_pos hn]
      have hd : (r.den : Rat) ≠ 0 := by
       intro e0
       have := Rat.intCast_inj.1 (e0.trans Rat.intCast_zero.symm)
       omega
      have e : ((r.den.natAbs : Nat) : Rat) = -(r.den : Rat) := by
       have e1 : ((r.den.natAbs : Nat) : Rat) = (((r.den.natAbs : Nat) : Int) : Rat) := rfl
       have e2 : ((r.den.natAbs : Nat) : Int) = -r.den := by omega
       rw [e1, e2, Rat.intCast_neg]
      refine ⟨by omega, ?_, ?_⟩ <;> simp only [e, Rat.intCast_neg] <;> grind
    · rw [if_neg hn, if_neg hn]
      have e : ((r.den.natAbs : Nat) : Rat) = (r.den : Rat) := by
       have e2 : ((r.den.natAbs : Nat) : Int) = r.den := by omega
       conv => rhs; rw [← e2]
       rfl
      exact ⟨by omega, by simp only [e], by simp only [e]⟩
 refine key.sz ?_ ?_ ?_
 · exact L04 (by split <;> omega)
 · exact L04 (by split <;> omega)
 · exact L04 (by split <;> omega)
def ofS (q : Rat) : Sk := ⟨u09 q, k0b q⟩
def ofB (z : Cq) : Bk := ⟨ofS z.re, ofS z.im⟩
theorem U0d (q : Rat) : (ofS q).ok := ⟨O0k q, P0k q⟩
theorem B0s (z : Cq) : (ofB z).ok := ⟨U0d _, U0d _⟩
theorem N0f {V : View} {x y : NumV} {q : Rat} (hx : n02 V x ⟨q, 0⟩) (hy : n02 V y ⟨q, 0⟩) (hz : (⟨q, 0⟩ : Cq).sz ≤ 2 ^ 28) : a00 prog L0j #[x.val, y.val] V fun v _ => v = .tuple #[(ofS q).v.val, .int .i64 0] := by
 refine t0i x y V _ ((q09 hx).mono fun v V1 l1 hv => ⟨_, hv, fun h => absurd h (by simp), fun _ => ?_⟩)
 refine (q09 (hy.le l1)).mono fun v V2 l2 hv => ⟨_, hv, fun h => absurd h (by simp), fun _ b1 V3 l3 _ hb1 => ?_⟩
 have L3 := View.le_trans l1 (View.le_trans l2 l3)
 have bx : BdAt V3 (BdV.mk 0 x) ⟨0, q⟩ := ⟨rfl, hx.le L3, .inl rfl⟩
 have byy : BdAt V3 (BdV.mk 0 y) ⟨0, q⟩ := ⟨rfl, hy.le L3, .inl rfl⟩
 have hs : ∀ e ∈ [(⟨0, q⟩ : Eb), ⟨0, q⟩], e.num.sz ≤ 2 ^ 40 := by
  intro e he; simp at he; subst he; exact Nat.le_trans hz (by omega)
 have pk : ∀ way, Eb.pick way [(⟨0, q⟩ : Eb), ⟨0, q⟩] = ⟨0, q⟩ := fun way => by
  show (if Eb.cmp ⟨0, q⟩ ⟨0, q⟩ = way then (⟨0, q⟩ : Eb) else ⟨0, q⟩) = _
  split <;> rfl
 refine (n0d (o0d bx byy hb1) (by simp) (by simp) hs).mono fun v V4 l4 ⟨r3, hv, h3⟩ => ⟨r3, hv, fun b2 V5 l5 _ hb2 => ?_⟩
 have L5 := View.le_trans l4 l5
 refine (t09 (o0d (bx.le L5) (byy.le L5) hb2) (by simp) (by simp) hs).mono fun v V6 l6 ⟨r4, hv, h4⟩ => ⟨r4, hv, ?_⟩
 rw [pk] at h3 h4
 have hset : EsAt V6 (SetV.mk r3 r4) ⟨⟨0, q⟩, ⟨0, q⟩⟩ := ⟨h3.le (View.le_trans l5 l6), h4⟩
 refine (q05 hset (S := 2 ^ 28) ⟨hz, hz⟩ (by omega)).mono fun v V7 _ hv => ⟨_, hv, ?_⟩
 rfl
theorem Y0m {V : View} {x : NumV} {z : Cq} (b : BoxV) (hx : n02 V x z) (hz : z.sz ≤ 2 ^ 27) : a00 prog s0n #[b.val, x.val] V fun v _ => v = (ofB z).v.val := by
 have s1 := H0u z; have s2 := I0u z
 refine b0r b x V _ ((G0b hx (by omega)).mono fun v V1 l1 ⟨r1, hv, h1⟩ => ⟨r1, hv, ?_⟩)
 refine (G0b (hx.le l1) (by omega)).mono fun v V2 l2 ⟨r2, hv, h2⟩ => ⟨r2, hv, ?_⟩
 refine (N0f (h1.le l2) h2 (by omega)).mono fun v V3 l3 hv => ⟨_, _, hv, ?_⟩
 have L3 := View.le_trans l1 (View.le_trans l2 l3)
 refine (H0b (hx.le L3) (by omega)).mono fun v V4 l4 ⟨r5, hv, h5⟩ => ⟨r5, hv, ?_⟩
 refine (H0b (hx.le (View.le_trans L3 l4)) (by omega)).mono fun v V5 l5 ⟨r6, hv, h6⟩ => ⟨r6, hv, ?_⟩
 exact (N0f (h5.le l5) h6 (by omega)).mono fun v V6 _ hv => ⟨_, _, hv, rfl⟩
theorem d0w (s : Sk) (q : Rat) : s.has q = true ↔ ¬ Eb.LT ⟨0, q⟩ (endE s.lo) ∧ ¬ Eb.LT (endE s.hi) ⟨0, q⟩ := by
 unfold Sk.has
 rw [Bool.and_eq_true, decide_eq_true_iff, decide_eq_true_iff, ← Eb.cmp_1, ← Eb.cmp_1]
 have r1 := Eb.cmp_range (endE s.lo) ⟨0, q⟩
 have r2 := Eb.cmp_range ⟨0, q⟩ (endE s.hi)
 constructor
 · rintro ⟨h1, h2⟩; exact ⟨by omega, by omega⟩
 · rintro ⟨h1, h2⟩; exact ⟨by omega, by omega⟩
theorem n0j (q : Rat) : (ofS q).has q = true := (d0w _ _).2 ⟨F0b q, I0m q⟩
theorem C0s (z : Cq) : (ofB z).has z = true := by
 show ((ofS z.re).has z.re && (ofS z.im).has z.im) = true
 rw [n0j, n0j]; rfl

def Bk.div (b c : Bk) : Bk := if c.invE = 0 then b.mul c.inv else Bk.nil
theorem t0l {V : View} {b c : Bk} (h : b.ok) (k : c.ok) : a00 prog Z0j #[b.v.val, c.v.val] V fun v _ => v = .tuple #[(Bk.div b c).v.val, .int .i64 c.invE] := by
 refine w0p b.v c.v V _ ((T0d k).mono fun v V1 _ hv => ⟨_, _, hv, fun hc => ?_, fun hc => ?_⟩)
 · have hc : c.invE ≠ 0 := by simpa using hc
   unfold Bk.div; rw [if_neg hc]; rfl
 · have hc : c.invE = 0 := by simpa using hc
   refine (q0a h (K0s c)).mono fun v V2 _ hv => ⟨_, hv, ?_⟩
   unfold Bk.div; rw [if_pos hc, hc]

def okB (_ : Bk) : Prop := True
def atB (_ : View) (n : BoxV) (b : Bk) : Prop := n = b.v ∧ b.ok
theorem atB.le {V V' : View} (_ : V.le V') {n : BoxV} {z : Bk} (k : atB V n z) : atB V' n z := k
theorem elB {V : View} {x : List Value} {b : Bk} (h : boxC V x b) : ∃ n : BoxV, x = n.val.cells.toList ∧ atB V n b := ⟨b.v, h.1, rfl, h.2⟩
theorem n0x {V : View} {n : BoxV} {b : Bk} (h : atB V n b) : boxC V n.val.cells.toList b := ⟨by rw [h.1], h.2⟩
theorem o0x (n : BoxV) : n.val.cells.toList.length = 4 := rfl
theorem oneB {V : View} {x : List Value} {b : Bk} (h : boxC V x b) : ∀ v ∈ x, Value.oneCell' v = true := by
 obtain ⟨e, _⟩ := h
 subst e
 intro v hv
 have e : b.v.val.cells.toList = [.float .f64 b.v.re.lo, .float .f64 b.v.re.hi, .float .f64 b.v.im.lo, .float .f64 b.v.im.hi] := rfl
 rw [e] at hv
 simp only [List.mem_cons, List.not_mem_nil, or_false] at hv
 rcases hv with rfl | rfl | rfl | rfl <;> rfl
theorem L0x (V : View) : boxC V [Value.float .f64 0, Value.float .f64 0, Value.float .f64 0, Value.float .f64 0] Bk.nil := ⟨rfl, Bk.nil_ok⟩
theorem p0x {V : View} {n : BoxV} {z : Bk} (h : atB V n z) (_ : okB z) : a00 prog S0e #[n.val] V fun v _ => v = .bool (boxO.clr z) := by
 rw [h.1]; exact x06 h.2
theorem e0w {b : Bk} (h : boxO.clr b = true) : b.invE = 0 := by
 have h : b.clear = true := h
 unfold Bk.invE; rw [h]; rfl
theorem D0s (b c : Bk) : (boxO.div b c).ok := by
 show Bk.ok (if c.invE = 0 then b.mul c.inv else Bk.nil)
 split
 · exact Bk.mul_ok _ _
 · exact Bk.nil_ok
theorem divB {V : View} {n k : BoxV} {z w : Bk} (h : atB V n z) (h' : atB V k w) (_ : okB z) (_ : okB w) (hc : boxO.clr w = true) :
 a00 prog Z0j #[n.val, k.val] V fun v V' => ∃ r : BoxV, v = .tuple #[r.val, .int .i64 0] ∧ atB V' r (boxO.div z w) := by
 rw [h.1, h'.1]
 refine (t0l h.2 h'.2).mono fun v V' _ hv => ⟨_, ?_, rfl, D0s z w⟩
 rw [hv, e0w hc]; rfl
theorem N0s (b c : Bk) : (b.sub c).ok := ⟨s07 _, s07 _⟩
theorem mulB {V : View} {n k : BoxV} {x y : Bk} (h : atB V n x) (h' : atB V k y) (_ : okB x) (_ : okB y) :
 a00 prog Q0e #[n.val, k.val] V fun v V' => ∃ r : BoxV, v = r.val ∧ atB V' r (boxO.mul x y) := by
 rw [h.1, h'.1]
 exact (q0a h.2 h'.2).mono fun v V' _ hv => ⟨_, hv, rfl, Bk.mul_ok x y⟩
theorem subB {V : View} {n k : BoxV} {x y z : Bk} (h : atB V n x) (h' : atB V k (boxO.mul y z)) (_ : okB x) (_ : okB y) (_ : okB z) :
 a00 prog U0e #[n.val, k.val] V fun v V' => ∃ r : BoxV, v = r.val ∧ atB V' r (boxO.sub x (boxO.mul y z)) := by
 rw [h.1, h'.1]
 exact (q0l h.2 h'.2).mono fun v V' _ hv => ⟨_, hv, rfl, N0s x _⟩
theorem M0x {V : View} {n k : BoxV} {x y u : Bk} (h : atB V n (boxO.div x y)) (h' : atB V k u) (_ : okB x) (_ : okB y) (_ : okB u) :
 a00 prog Q0e #[n.val, k.val] V fun v V' => ∃ r : BoxV, v = r.val ∧ atB V' r (boxO.mul (boxO.div x y) u) := mulB h h' trivial trivial
theorem N0x {V : View} {n k : BoxV} {z x y u : Bk} (h : atB V n z) (h' : atB V k (boxO.mul (boxO.div x y) u)) (_ : okB z) (_ : okB x) (_ : okB y) (_ : okB u) :
 a00 prog U0e #[n.val, k.val] V fun v V' => ∃ r : BoxV, v = r.val ∧ atB V' r (boxO.sub z (boxO.mul (boxO.div x y) u)) := subB h h' trivial trivial trivial
def J0b (k : Int) : Bk := ofB ⟨(k : Rat), 0⟩
def Q0u (z : Bk) : Bk := z.neg
def zvB : BoxV := BoxV.mk (SpV.mk 0 0) (SpV.mk 0 0)
theorem f0w {V : View} (x : BoxV) {y : NumV} {k : Int} (hy : n02 V y ⟨(k : Rat), 0⟩) (hk : k = 0 ∨ k = 1) : a00 prog s0n #[x.val, y.val] V fun v V' => ∃ r : BoxV, v = r.val ∧ atB V' r (J0b k) := by
 have hs : (⟨(k : Rat), 0⟩ : Cq).sz ≤ 2 ^ 27 := by
  have := (Rep.ofInt k).sz (k := 64) (by rcases hk with rfl | rfl <;> decide) (by decide) (by decide)
  omega
 exact (Y0m x hy hs).mono fun v V' _ hv => ⟨_, hv, rfl, B0s _⟩
theorem O0x {V : View} {n k : BoxV} {x y : Bk} (h : atB V n x) (h' : atB V k y) (_ : okB x) (_ : okB y) : a00 prog a0h #[n.val, k.val] V fun v _ => v = .bool (decide (x = y)) := by
 rw [h.1, h'.1]; exact m0j h.2 h'.2
theorem negB {V : View} {n : BoxV} {x : Bk} (h : atB V n x) : a00 prog a0k #[n.val] V fun v V' => ∃ r : BoxV, v = r.val ∧ atB V' r (Q0u x) := by
 rw [h.1]; exact (n0l h.2).mono fun v V' _ hv => ⟨_, hv, rfl, Sk.neg_ok h.2.re, Sk.neg_ok h.2.im⟩
theorem g0w : okB (J0b 0) := trivial

theorem g0e {V : View} {s : Sl} {p : Option Addr} {k : Nat} (hp : V.load p = some (.int .i64 (k : Int))) :
 a00 prog A04 #[s.v, .pointer p] V fun v _ => v = .bool (decide (s.len ≠ k)) := by
 refine l08 s p V _ ⟨_, hp, ?_⟩
 congr 1
 by_cases e : s.len = k
 · subst e; simp
 · simp [e]; omega
theorem K0c {V : View} {p : Sl} {rows : List (List Bk)} (h : N03 4 boxC V p rows) (hn : rows.length ≤ 2 ^ 40) (q : Fn1) {k : Nat} (hp : V.load q.p0 = some (.int .i64 (k : Int))) :
 a00 prog X02 #[p.v, q.val A04] V fun v _ => ∃ r : Int, v = .int .i64 r ∧ (0 ≤ r ↔ ∃ row, row ∈ rows ∧ row.length ≠ k) := by
 have hl : p.len = rows.length := h.len
 refine w02 p q V _ (fun _ x _ => ∃ t : Nat, x.t8 = t ∧ t ≤ rows.length ∧ ∀ row, row ∈ rows.take t → row.length = k) (fun _ x _ => rows.length - x.t8.toNat) ⟨⟨0, rfl, by omega, by simp⟩, ?_⟩
 rintro ⟨t⟩ V1 l1 ⟨t', ht, htn, hi⟩
 dsimp only at ht ⊢
 subst ht
 refine ⟨fun hlt => ?_, fun hge => ?_⟩
 · simp only [decide_eq_true_eq] at hlt
   have hk : t' < rows.length := by omega
   obtain ⟨g1, s, g2, g3⟩ := (h.le boxC.le l1).row (t := (t' : Int)) (by omega) (row := rows[t']) (by simp)
   refine ⟨g1, s, g2, (g0e (d02 l1 hp)).mono fun v V2 l2 hv => ⟨_, hv, fun hr => ⟨_, rfl, ?_⟩, fun hr => ?_⟩⟩
   · have hne := of_decide_eq_true hr
     rw [g3.len] at hne
     exact ⟨fun _ => ⟨rows[t'], List.getElem_mem hk, hne⟩, fun _ => by omega⟩
   · have he : s.len = k := by simpa using hr
     rw [g3.len] at he
     rw [i64w (by omega) (by omega)]
     refine ⟨⟨t' + 1, by omega, by omega, fun row hrow => ?_⟩, by omega⟩
     rw [List.take_add_one, List.getElem?_eq_getElem hk] at hrow
     simp only [Option.toList_some, List.mem_append, List.mem_singleton] at hrow
     rcases hrow with hrow | hrow
     · exact hi row hrow
     · subst hrow; exact he
 · simp only [decide_eq_false_iff_not] at hge
   have e : t' = rows.length := by omega
   subst e
   rw [List.take_length] at hi
   exact ⟨-1, rfl, fun h => absurd h (by omega), fun ⟨row, h1, h2⟩ => absurd (hi row h1) h2⟩
theorem t0a {V : View} {p : Sl} {rows : List (List Bk)} (h : N03 4 boxC V p rows) (hn : rows.length ≤ 2 ^ 40) (q : Fn1) {k : Nat} (hp : V.load q.p0 = some (.int .i64 (k : Int))) :
 a00 prog B02 #[p.v, q.val A04] V fun v _ => v = .bool (rows.any fun row => decide (row.length ≠ k)) := by
 refine j02 p q V _ ((K0c h hn q hp).mono fun v V1 l1 ⟨r, hv, hr⟩ => ⟨r, hv, ?_⟩)
 congr 1
 rw [Bool.eq_iff_iff]
 simp only [ge_iff_le, decide_eq_true_eq, List.any_eq_true]
 exact hr
def X06 (rows : List (List Bk)) : Nat := (rows.headD []).length
def O0f (rows : List (List Bk)) : Bool := rows.isEmpty || (decide (rows.length ≤ 32) && decide (X06 rows ≤ 32) && !(rows.any fun row => decide (row.length ≠ X06 rows)))
theorem c0b {V : View} {p : Sl} {rows : List (List Bk)} (h : N03 4 boxC V p rows) (hn : rows.length ≤ 2 ^ 40) :
 a00 prog w09 #[p.v] V fun v _ => v = .tuple #[.int .i64 (X06 rows : Int), .bool (O0f rows)] := by
 have hl : p.len = rows.length := h.len
 refine f09 p V _ ⟨fun h0 => ?_, fun h0 => ?_⟩
 · have e : rows = [] := List.length_eq_zero_iff.1 (by simp at h0; omega)
   subst e; rfl
 · have hne : 0 < rows.length := by simp at h0; omega
   obtain ⟨row, rest, e⟩ : ∃ row rest, rows = row :: rest := by
    cases rows with
    | nil => simp at hne
    | cons a l => exact ⟨a, l, rfl⟩
   obtain ⟨g1, s, g2, g3⟩ := h.row (t := (0 : Int)) (by omega) (row := row) (by subst e; rfl)
   refine ⟨g1, s, g2, fun b1 V1 l1 hb1 => ?_⟩
   have hld : V1.load (some (Addr.mk b1 0 none)) = some (.int .i64 (s.len : Int)) := by
    have := P04 (j := 0) hb1
    simpa [Addr.add] using this
   have hs : s.len = X06 rows := by subst e; exact g3.len
   rw [hs] at hld
   have hE : rows.isEmpty = false := by subst e; rfl
   refine ⟨_, hld, fun h1 => ⟨_, hld, fun h2 => ?_, fun h2 => ?_⟩, fun h1 => ?_⟩
   · simp only [decide_eq_true_eq] at h1 h2
     refine (t0a (h.le boxC.le l1) hn ⟨some (Addr.mk b1 0 none)⟩ hld).mono fun v V2 l2 hv => ⟨_, hv, ?_⟩
     have e1 : decide (rows.length ≤ 32) = true := by simp; omega
     have e2 : decide (X06 rows ≤ 32) = true := by simp; omega
     simp only [O0f, hE, e1, e2, Bool.false_or, Bool.true_and]
   · simp only [decide_eq_false_iff_not] at h2
     have e2 : decide (X06 rows ≤ 32) = false := by simp; omega
     simp only [O0f, hE, e2, Bool.false_or, Bool.and_false, Bool.false_and]
   · simp only [decide_eq_false_iff_not] at h1
     have e1 : decide (rows.length ≤ 32) = false := by simp; omega
     simp only [O0f, hE, e1, Bool.false_or, Bool.false_and]
theorem u0a {V : View} {p : Sl} {rows : List (List Bk)} (h : N03 4 boxC V p rows) (hn : rows.length ≤ 2 ^ 40) :
 a00 prog d06 #[p.v] V fun v _ => v = .bool (O0f rows && decide (X06 rows = rows.length)) := by
 have hl : p.len = rows.length := h.len
 refine I08 p V _ ((c0b h hn).mono fun v V1 l1 hv => ⟨_, _, hv, fun h1 => ?_, fun h1 => ?_⟩)
 · rw [h1, Bool.true_and, hl]
   congr 1
   by_cases e : X06 rows = rows.length
   · simp [e]
   · simp [e]; omega
 · rw [h1, Bool.false_and]
theorem P0x {V : View} {o : List Value} {row : List Bk} (h : G01 4 boxC V o row) : ∀ v ∈ o, Value.oneCell' v = true := by
 induction row generalizing o with
 | nil => rw [show o = [] from h]; simp
 | cons z zs ih =>
   obtain ⟨x, o', e, hx, hp, ht⟩ := h
   subst e
   intro v hv
   rw [List.mem_append] at hv
   rcases hv with hv | hv
   · exact oneB hp v hv
   · exact ih ht v hv
theorem L0c {m V : View} {s : Sl} {row : List Bk} {o : List Value} (hC : G01 4 boxC V o row) (ho : has2 m V s.a o) (hl : s.len = row.length) (ha : s.a = none → row = []) (hb : row.length ≤ 2 ^ 30) :
 U04 prog g06 #[s.v] m V fun v m' V' => ∃ (r : Sl) (b : Nat), v = r.v ∧ RowR 4 boxC m' V' r b row ∧ (row ≠ [] → m b = none) ∧ (∀ i, i ≠ b ∨ row = [] → m' i = m i) := by
 refine T05 m s V _ ⟨trivial, fun h => ?_, fun h b1 V1 l1 hf hb1 => ?_⟩
 · have e := ha (by simpa using h)
   exact ⟨⟨none, 0, 0⟩, 0, rfl, ⟨by rw [e]; rfl, Nat.le_refl _, fun _ => rfl, fun h => absurd e h⟩, fun h => absurd e h, fun _ _ => rfl⟩
 · have hol := hC.length
   refine ⟨[], o, ⟨Nat.le_refl _, fun h => by simp at h⟩, .inl (by intro j v hj; simp at hj), by simp, z0e l1 ho, by rw [hol, hl], P0x hC, by unfold maxLen; omega, by omega, fun h1 h2 => by omega, fun a1 c1 m1 ha1 => ?_⟩
   have hC1 : G01 4 boxC V1 o row := hC.imp (boxC.le l1)
   obtain ⟨b, hr, hb2, hm, hm2⟩ := P0h hC1 rfl hl ha1
   exact ⟨_, b, rfl, hr, hb2, fun i hi => by
    rcases hi with hi | hi
    · exact hm i hi
    · rw [hm2 hi]⟩
def S08 (A : Nat → Nat → Bk) (w : Nat) (C : Nat → Nat → Bk) : Nat → Nat → Bk := fun i k => if k < w then A i k else C (k - w) i
theorem K07 {V : View} {p q : Sl} {n w u : Nat} {A C : Nat → Nat → Bk} (h : N03 4 boxC V p (matL n w A)) (hq : N03 4 boxC V q (matL u n C)) (hn : n ≤ 2 ^ 20) (hw : w ≤ 2 ^ 20) (hu : u ≤ 2 ^ 20) :
 U04 prog H09 #[p.v, q.v] (fun _ => none : View) V fun v m' V' => ∃ r : Sl, v = r.v ∧ MatR 4 boxC m' V' r n (w + u) (S08 A w C) := by
 have hl : p.len = n := by have := h.len; rw [I00] at this; exact this
 have hql : q.len = u := by have := hq.len; rw [I00] at this; exact this
 refine B09 (fun _ => none) p q V _ (fun _ x V' => ∃ t : Nat, x.t15 = t ∧ t ≤ n ∧ x.o12.length = n ∧ f07 4 boxC x.o0 V' x.o12 t (fun i => rowL (w + u) (S08 A w C i))) (fun _ x _ => n - x.t15.toNat)
  (fun c x V' => ∃ t k : Nat, c.t15 = t ∧ t < n ∧ x.t27 = k ∧ k ≤ u ∧ x.o12.length = n ∧ f07 4 boxC x.o0 V' x.o12 (t + 1) (fun i => if i = t then rowL (w + k) (S08 A w C i) else rowL (w + u) (S08 A w C i))) (fun _ x _ => u - x.t27.toNat) ?_
 rw [hl]
 refine ⟨⟨by omega, by omega, by omega, by omega⟩, ⟨0, rfl, by omega, by simp, T0f _ _ _ _⟩, ?_⟩
 rintro ⟨t15, o0, o12⟩ V1 l1 ⟨t, ht, htn, hlen, hR⟩
 dsimp only at ht hlen hR ⊢
 subst ht
 refine ⟨fun hlt => ?_, fun hge => ?_⟩
 · simp only [decide_eq_true_eq] at hlt
   have hk : t < n := by omega
   obtain ⟨g1, s, g2, g3⟩ := (h.le boxC.le l1).row (t := (t : Int)) (by omega) (row := rowL w (A t)) (by rw [Int.toNat_natCast]; exact x04 hk A)
   rw [hl] at g1
   obtain ⟨o, ho, hC⟩ := g3.cells
   refine ⟨g1, s, .inr g2, ?_⟩
   refine (L0c hC (.inr ho) g3.len (fun e => ?_) (by rw [Q00]; omega)).mono fun v m1 V2 l2 _ ⟨r, b, hv, hr, hb, hm⟩ => ⟨r, hv, ⟨by omega, by omega⟩, by rw [hlen, Int.toNat_natCast]; omega, ?_, ?_⟩
   · by_cases e2 : rowL w (A t) = []
     · exact e2
     · have := g3.some e2; rw [e] at this; simp at this
   · refine ⟨t, 0, rfl, hk, rfl, by omega, by simp [hlen], ?_⟩
     have := (hR.le boxC.le l2).push (by omega) hr hb hm
     have e1 : (0 + Int.toNat (t : Int) * 1) = t := by omega
     rw [e1]
     refine this.congr fun i hi => ?_
     by_cases e : i = t
     · subst e
       simp only [if_true, Nat.add_zero]
       exact N08 fun k hk => by simp [S08, hk]
     · simp [e]
   · rintro ⟨t27, o0', o12'⟩ V3 l3 ⟨t', k, ht', htn', hk27, hku, hlen', hR'⟩
     dsimp only at ht' hk27 hlen' hR' ⊢
     have : t' = t := by omega
     subst this
     subst hk27
     rw [hql]
     refine ⟨fun hlt2 => ?_, fun hge2 => ?_⟩
     · simp only [decide_eq_true_eq] at hlt2
       have hku2 : k < u := by omega
       have lq := View.le_trans l1 (View.le_trans l2 l3)
       obtain ⟨q1, s2, q2, q3⟩ := (hq.le boxC.le lq).row (t := (k : Int)) (by omega) (row := rowL n (C k)) (by rw [Int.toNat_natCast]; exact x04 hku2 C)
       rw [hql] at q1
       obtain ⟨s3, e3, r1, r2, r3, ⟨o3, r4, r5, r6⟩, r7⟩ := hR'.row (i := t') (by omega)
       obtain ⟨c1, x, hx, hxl, hh, hs⟩ := s00.get q3 (t := (t' : Int)) (by omega) (z := C k t') (by rw [Int.toNat_natCast]; exact w03 hk _)
       obtain ⟨y, ey, hy⟩ := elB hx
       subst ey
       simp only [if_true] at r1 r6
       rw [Q00] at r1
       refine ⟨q1, s2, .inr q2, ⟨by omega, by omega⟩, s3, by rw [Int.toNat_natCast, Nat.mul_one, Nat.zero_add]; exact e3, c1, y, .inr hh, hs, fun b1 V4 l4 hf4 hb4 => ?_⟩
       have hnew : V4.has (some (Addr.mk b1 0 none)) y.val.cells.toList := by
        refine p05 (cs := y.val.cells.toList) (j := 0) hb4 (fun i v hv => by rw [Nat.zero_add]; exact hv) rfl
       refine ⟨o3, _, ⟨r2, r3⟩, z0e l4 r4, r5, .inr hnew, by rw [hxl], oneB (boxC.le l4 _ _ hx), by unfold maxLen; omega, by omega, fun _ h2 => r7 1 (by omega) h2, fun a1 c1 m2 ha => ⟨⟨by omega, by omega⟩, by rw [hlen', Int.toNat_natCast]; omega, ?_⟩⟩
       have := (hR'.le boxC.le l4).app (i := t') (by omega) e3 hxl (boxC.le l4 _ _ hx) (o' := o3) (by simp only [if_true]; exact r6.imp (boxC.le l4)) ha
       rw [i64w (by omega) (by omega)]
       refine ⟨⟨t', k + 1, rfl, htn', by omega, by omega, by simp [hlen'], ?_⟩, by omega⟩
       have e1 : (0 + Int.toNat (t' : Int) * 1) = t' := by omega
       rw [e1]
       refine this.congr fun i hi => ?_
       by_cases e : i = t'
       · subst e
         simp only [if_true]
         rw [show C k i = S08 A w C i (w + k) by unfold S08; rw [if_neg (by omega), Nat.add_sub_cancel_left], o0c]; rfl
       · simp [e]
     · simp only [decide_eq_false_iff_not] at hge2
       have e : k = u := by omega
       subst e
       rw [i64w (by omega) (by omega)]
       refine ⟨⟨t' + 1, by omega, by omega, hlen', hR'.congr fun i hi => ?_⟩, by omega⟩
       by_cases e : i = t' <;> simp [e]
 · simp only [decide_eq_false_iff_not] at hge
   intro b3 hb3 hb4
   have e : t = n := by omega
   subst e
   rw [Int.toNat_natCast]
   exact ⟨_, rfl, hR.mat hlen hb3⟩
theorem p06 {m V : View} {p : Sl} {n w : Nat} {A : Nat → Nat → Bk} (Q : Nat → Bk → Prop) (h : MatR 4 boxC m V p n w A) (hn : n ≤ w) (hw : w ≤ 2 ^ 20)
 (q1 : ∀ c x, c ≤ n → Q c x → okB x) (q2 : ∀ c x y z u, Q c x → Q c y → Q c z → Q c u → Q (c + 1) (boxO.sub x (boxO.mul (boxO.div y z) u))) (q3 : ∀ c x, Q c x → Q (c + 1) x) (hA : ∀ i j, i < n → j < w → Q 0 (A i j)) :
 U04 prog x08 #[p.v] m V fun v m' V' => v = .tuple #[.int .i64 ((elim boxO n w A).2.1 : Nat), .int .i64 (match (elim boxO n w A).2.2 with | none => -1 | some c => (c : Int))] ∧ MatR 4 boxC m' V' p n w (elim boxO n w A).1 := by
 have hl := h.len
 refine m08 m p V _
  (fun _ x V' => ∃ (c s : Nat) (B : Nat → Nat → Bk), x.t13 = c ∧ x.t4 = s ∧ c ≤ n ∧ s ≤ c ∧ MatR 4 boxC x.o0 V' p n w B ∧ O03 boxO n w (n - c) c B s = elim boxO n w A ∧ ∀ i j, i < n → j < w → Q c (B i j))
  (fun _ x _ => n - x.t13.toNat)
  (fun c x V' => ∃ (k s : Nat) (B : Nat → Nat → Bk), c.t13 = k ∧ c.t4 = s ∧ k < n ∧ s ≤ k ∧ MatR 4 boxC c.o0 V' p n w B ∧ O03 boxO n w (n - k) k B s = elim boxO n w A ∧ (∀ i j, i < n → j < w → Q k (B i j)) ∧ x.t6 = (pivF boxO B k n : Nat))
  (fun c x V' => ∃ (k s : Nat) (B : Nat → Nat → Bk) (t : Nat), c.t13 = k ∧ c.t4 = s ∧ k < n ∧ s ≤ k ∧ MatR 4 boxC c.o0 V' p n w B ∧ O03 boxO n w (n - k) k B s = elim boxO n w A ∧ (∀ i j, i < n → j < w → Q k (B i j)) ∧ x.t6 = t ∧ k ≤ t ∧ t ≤ n ∧ ∀ q, k ≤ q → q < t → boxO.clr (B q k) = false)
  (fun _ x _ => n - x.t6.toNat)
  (fun c x V' => ∃ (k s : Nat) (B : Nat → Nat → Bk), c.t13 = k ∧ x.t4 = s ∧ k < n ∧ s ≤ k + 1 ∧ MatR 4 boxC x.o0 V' p n w B ∧ O03 boxO n w (n - (k + 1)) (k + 1) (colF boxO w B k n) s = elim boxO n w A ∧ (∀ i j, i < n → j < w → Q k (B i j)) ∧ boxO.clr (B k k) = true)
  (fun c x V' => ∃ (k s : Nat) (B : Nat → Nat → Bk) (R : Nat), c.t13 = k ∧ c.t4 = s ∧ k < n ∧ s ≤ k + 1 ∧ x.t7 = R ∧ k < R ∧ R ≤ n ∧ MatR 4 boxC x.o0 V' p n w (colF boxO w B k R) ∧ O03 boxO n w (n - (k + 1)) (k + 1) (colF boxO w B k n) s = elim boxO n w A ∧ (∀ i j, i < n → j < w → Q k (B i j)) ∧ boxO.clr (B k k) = true)
  (fun _ x _ => n - x.t7.toNat)
  (fun c x V' => ∃ (k s : Nat) (B : Nat → Nat → Bk) (R K : Nat), c.t13 = k ∧ c.t4 = s ∧ k < n ∧ s ≤ k + 1 ∧ c.t7 = R ∧ k < R ∧ R < n ∧ x.t10 = K ∧ k < K ∧ K ≤ w ∧ atB V' ⟨⟨c.o8_0, c.o8_1⟩, ⟨c.o8_2, c.o8_3⟩⟩ (boxO.div (B R k) (B k k)) ∧
    MatR 4 boxC x.o0 V' p n w (rowF boxO (colF boxO w B k R) k R (boxO.div (B R k) (B k k)) K) ∧ O03 boxO n w (n - (k + 1)) (k + 1) (colF boxO w B k n) s = elim boxO n w A ∧ (∀ i j, i < n → j < w → Q k (B i j)) ∧ boxO.clr (B k k) = true)
  (fun _ x _ => w - x.t10.toNat) ?_
 rw [hl]
 refine ⟨⟨0, 0, A, rfl, rfl, by omega, by omega, h, by rw [Nat.sub_zero]; rfl, hA⟩, ?_⟩
 rintro ⟨t4, t13, o0⟩ V1 l1 ⟨c, s, B, e13, e4, hc, hs, hM, hE, hQ⟩
 dsimp only at e13 e4 hM ⊢
 subst e13; subst e4
 refine ⟨fun hlt => ⟨⟨⟨c, s, B, c, rfl, rfl, by simp at hlt; omega, hs, hM, hE, hQ, rfl, by omega, hc, fun q h1 h2 => by omega⟩, ?_⟩, ?_⟩, fun hge => ?_⟩
 · -- the search for the pivot
   rintro ⟨t6⟩ V3 l3 ⟨k, s', B', t, e13, e4, hk, hs', hM', hE', hQ', e6, h1, h2, h3⟩
   dsimp only at e13 e4 e6 hM' ⊢
   obtain rfl : c = k := by omega
   obtain rfl : s = s' := by omega
   subst e6
   refine ⟨fun hlt2 => ?_, fun hge2 => ?_⟩
   · simp only [decide_eq_true_eq] at hlt2
     have ht : t < n := by omega
     obtain ⟨g1, sl, g2, g3, g4, g5, g6, g7, g8⟩ := hM'.row ht
     obtain ⟨x, hx, hxl, hh, hsm⟩ := g7 c (by omega)
     obtain ⟨y, ey, hy⟩ := elB hx
     subst ey
     refine ⟨⟨by omega, by omega, g1⟩, sl, .inl (by rw [Int.toNat_natCast]; exact g2), ⟨by omega, by omega, g5 (by omega)⟩, y, by rw [Int.toNat_natCast]; exact hh, by rw [Int.toNat_natCast]; exact hsm, ?_⟩
     refine (p0x hy (q1 c _ (by omega) (hQ' t c ht (by omega)))).mono fun v V4 l4 hv => ⟨_, hv, fun hb => ?_, fun hb => ?_⟩
     · rw [i64w (by omega) (by omega)]
       refine ⟨⟨c, s, B', t + 1, rfl, rfl, hk, hs', hM'.le boxC.le l4, hE', hQ', by omega, by omega, by omega, fun q hq1 hq2 => ?_⟩, by omega⟩
       by_cases e : q = t
       · subst e; simpa using hb
       · exact h3 q hq1 (by omega)
     · refine ⟨c, s, B', rfl, rfl, hk, hs', hM'.le boxC.le l4, hE', hQ', ?_⟩
       rw [I0i boxO B' h1 h2 h3 (fun _ => by simpa using hb)]
   · simp only [decide_eq_false_iff_not] at hge2
     have e : t = n := by omega
     refine ⟨c, s, B', rfl, rfl, hk, hs', hM', hE', hQ', ?_⟩
     rw [I0i boxO B' h1 h2 h3 (fun h => by omega)]
 · -- behind it
   rintro ⟨t6⟩ V2 l2 ⟨k, s', B', e13, e4, hk, hs', hM', hE', hQ', e6⟩
   dsimp only at e13 e4 e6 hM' ⊢
   obtain rfl : c = k := by omega
   obtain rfl : s = s' := by omega
   subst e6
   obtain ⟨p1, p2, p3, p4⟩ := k06 boxO B' (c := c) (n := n) (by omega)
   refine ⟨fun heq => ?_, fun hne => ⟨⟨fun hsw => ?_, fun hns => ?_⟩, ?_⟩⟩
   · have e : pivF boxO B' c n = n := by simp at heq; omega
     rw [← hE', t0h boxO n w hk B' s e]
     exact ⟨rfl, hM'⟩
   · have hpn : pivF boxO B' c n < n := by simp at hne; omega
     have hpc : pivF boxO B' c n ≠ c := by simp at hsw; omega
     obtain ⟨g1, sc, g2, _⟩ := hM'.row hk
     obtain ⟨_, sp, k2, _⟩ := hM'.row hpn
     obtain ⟨b1, c1, l1', u1, u2, u3, b2, c2, l2', u4, u5, u6, u7⟩ := hM'.swap (by omega) hk hpn g2 k2
     refine ⟨⟨by omega, by omega, g1⟩, sc, .inl (by rw [Int.toNat_natCast]; exact g2), ⟨by omega, by omega, g1⟩, sp, .inl (by rw [Int.toNat_natCast]; exact k2), ⟨by omega, by omega, g1⟩, b1, c1, l1', by rw [Int.toNat_natCast]; exact u1, u2, u3, ⟨by omega, by omega, g1⟩, b2, c2, l2', by rw [Int.toNat_natCast]; exact u4, u5, u6, ?_⟩
     rw [s0e boxO n w hk B' s (by omega), if_neg hpc] at hE'
     have ep : d05 B' c (pivF boxO B' c n) = o08 B' c (pivF boxO B' c n) := by unfold d05; rw [if_neg hpc]
     rw [i64w (by omega) (by omega)]
     refine ⟨c, s + 1, o08 B' c (pivF boxO B' c n), rfl, by omega, hk, by omega, u7, by rw [← ep]; exact hE', fun i j hi hj => ?_, ?_⟩
     · unfold o08
       split
       · exact hQ' _ j hpn hj
       · split
         · exact hQ' _ j hk hj
         · exact hQ' i j hi hj
     · simp only [o08, if_true]; exact p4 hpn
   · have hpc : pivF boxO B' c n = c := by simp at hns; omega
     have hpn : pivF boxO B' c n < n := by omega
     rw [s0e boxO n w hk B' s (by omega), if_pos hpc] at hE'
     have ep : d05 B' c (pivF boxO B' c n) = B' := by unfold d05; rw [if_pos hpc]
     rw [ep] at hE'
     exact ⟨c, s, B', rfl, rfl, hk, by omega, hM', hE', hQ', by have := p4 hpn; rw [hpc] at this; exact this⟩
   · -- the rows behind
     clear p1 p2 p3 p4 hE' hQ' hM'
     rintro ⟨t4', o0'⟩ V5 l5 ⟨k, s2, B2, e13', e4', hk2, hs2, hM2, hE2, hQ2, hcl⟩
     dsimp only at e13' e4' hM2 ⊢
     obtain rfl : c = k := by omega
     subst e4'
     refine ⟨⟨c, s2, B2, c + 1, rfl, rfl, hk, hs2, by rw [i64w (by omega) (by omega)]; omega, by omega, by omega, by rw [q0h]; exact hM2, hE2, hQ2, hcl⟩, ?_⟩
     clear hM2 hE2 hQ2 hcl
     rintro ⟨t7, o0''⟩ V6 l6 ⟨k, s3, B3, R, f13, f4, hk3, hs3, f7, hkR, hRn, hM3, hE3, hQ3, hcl3⟩
     dsimp only at f13 f4 f7 hM3 ⊢
     obtain rfl : c = k := by omega
     obtain rfl : s2 = s3 := by omega
     subst f7
     refine ⟨fun hlt2 => ?_, fun hge2 => ?_⟩
     · simp only [decide_eq_true_eq] at hlt2
       have hR : R < n := by omega
       obtain ⟨g1, sr, g2, g3, g4, g5, g6, g7, g8⟩ := hM3.row hR
       obtain ⟨_, sc, k2, k3, k4, k5, k6, k7, k8⟩ := hM3.row hk
       obtain ⟨x, hx, hxl, hh, hsm⟩ := g7 c (by omega)
       obtain ⟨x', hx', hxl', hh', hsm'⟩ := k7 c (by omega)
       rw [t0f] at hx
       rw [s0f] at hx'
       obtain ⟨y, ey, hy⟩ := elB hx
       obtain ⟨y', ey', hy'⟩ := elB hx'
       subst ey; subst ey'
       refine ⟨⟨by omega, by omega, g1⟩, sr, .inl (by rw [Int.toNat_natCast]; exact g2), ⟨by omega, by omega, g5 (by omega)⟩, y, by rw [Int.toNat_natCast]; exact hh, by rw [Int.toNat_natCast]; exact hsm,
        ⟨by omega, by omega, g1⟩, sc, .inl (by rw [Int.toNat_natCast]; exact k2), ⟨by omega, by omega, k5 (by omega)⟩, y', by rw [Int.toNat_natCast]; exact hh', by rw [Int.toNat_natCast]; exact hsm', ?_⟩
       have qR := hQ3 R c hR (by omega)
       have qc := hQ3 c c hk (by omega)
       refine (divB hy hy' (q1 c _ (by omega) qR) (q1 c _ (by omega) qc) hcl3).mono fun v V7 l7 ⟨r2, hv, hr2⟩ => ⟨r2, 0, hv, ⟨c, s2, B3, R, c + 1, rfl, rfl, hk, hs3, rfl, hkR, hR, by rw [i64w (by omega) (by omega)]; omega, by omega, by omega, hr2, ?_, hE3, hQ3, hcl3⟩, ?_⟩
       · rw [s0h]; exact hM3.le boxC.le l7
       · clear hM3 g1 g2 g3 g4 g5 g6 g7 g8 k2 k3 k4 k5 k6 k7 k8 hh hsm hh' hsm' hx hx' hy hy'
         rintro ⟨t10, o0'''⟩ V8 l8 ⟨k, s4, B4, R', K, d13, d4, hk4, hs4, d7, hkR4, hR4, d10, hkK, hKw, hf, hM4, hE4, hQ4, hcl4⟩
         dsimp only at d13 d4 d7 d10 hf hM4 ⊢
         obtain rfl : c = k := by omega
         obtain rfl : s2 = s4 := by omega
         obtain rfl : R = R' := by omega
         subst d10
         obtain ⟨g1, sr, g2, g3, g4, g5, g6, g7, g8⟩ := hM4.row hR
         refine ⟨⟨by omega, by omega, g1⟩, sr, .inl (by rw [Int.toNat_natCast]; exact g2), fun hlt3 => ?_, fun hge3 => ?_⟩
         · simp only [decide_eq_true_eq] at hlt3
           have hK : K < w := by omega
           obtain ⟨_, sc, k2, k3, k4, k5, k6, k7, k8⟩ := hM4.row hk
           obtain ⟨x, hx, hxl, hh, hsm⟩ := g7 K hK
           obtain ⟨x', hx', hxl', hh', hsm'⟩ := k7 K hK
           rw [t0u, t0f] at hx
           rw [s0u boxO _ _ _ (by omega), s0f] at hx'
           obtain ⟨y, ey, hy⟩ := elB hx
           obtain ⟨y', ey', hy'⟩ := elB hx'
           subst ey; subst ey'
           have qR := hQ4 R c hR (by omega)
           have qc := hQ4 c c hk (by omega)
           have qRK := hQ4 R K hR hK
           have qcK := hQ4 c K hk hK
           refine ⟨⟨by omega, by omega, g1⟩, sr, .inl (by rw [Int.toNat_natCast]; exact g2), ⟨by omega, by omega, g1⟩, sr, .inl (by rw [Int.toNat_natCast]; exact g2), ⟨by omega, by omega, g5 (by omega)⟩, y, by rw [Int.toNat_natCast]; exact hh, by rw [Int.toNat_natCast]; exact hsm,
            ⟨by omega, by omega, g1⟩, sc, .inl (by rw [Int.toNat_natCast]; exact k2), ⟨by omega, by omega, k5 (by omega)⟩, y', by rw [Int.toNat_natCast]; exact hh', by rw [Int.toNat_natCast]; exact hsm', ?_⟩
           refine (M0x hf hy' (q1 c _ (by omega) qR) (q1 c _ (by omega) qc) (q1 c _ (by omega) qcK)).mono fun v V9 l9 ⟨r4, hv, hr4⟩ => ⟨r4, hv, ?_⟩
           refine (N0x (atB.le l9 hy) hr4 (q1 c _ (by omega) qRK) (q1 c _ (by omega) qR) (q1 c _ (by omega) qc) (q1 c _ (by omega) qcK)).mono fun v V10 l10 ⟨r5, hv, hr5⟩ => ⟨r5, hv, ⟨by omega, by omega, g5 (by omega)⟩, ?_⟩
           obtain ⟨v1, v2, b3, c3, l3, v3, v4, v5, v6⟩ := (hM4.le boxC.le (View.le_trans l9 l10)).put hR hK (o0x r5) (n0x hr5) g2
           refine ⟨b3, c3, l3, by rw [Int.toNat_natCast]; exact v3, v4, v5, ?_⟩
           rw [i64w (by omega) (by omega)]
           refine ⟨⟨c, s2, B4, R, K + 1, rfl, rfl, hk, hs4, rfl, hkR, hR, by omega, by omega, by omega, atB.le (View.le_trans l9 l10) hf, ?_, hE4, hQ4, hcl4⟩, by omega⟩
           have e := L0k boxO (colF boxO w B4 c R) (c := c) (R := R) (boxO.div (B4 R c) (B4 c c)) hkK
           rw [← e, t0f, s0f]; exact v6
         · simp only [decide_eq_false_iff_not] at hge3
           have e : K = w := by omega
           subst e
           rw [i64w (by omega) (by omega)]
           rw [z0n boxO K B4 hkR] at hM4
           exact ⟨⟨c, s2, B4, R + 1, rfl, rfl, hk, hs4, by omega, by omega, by omega, hM4, hE4, hQ4, hcl4⟩, by omega⟩
     · simp only [decide_eq_false_iff_not] at hge2
       have e : R = n := by omega
       subst e
       rw [i64w (by omega) (by omega)]
       refine ⟨⟨c + 1, s2, colF boxO w B3 c R, by omega, rfl, by omega, hs3, hM3, hE3, fun i j hi hj => ?_⟩, by omega⟩
       unfold colF
       split
       · exact q2 c _ _ _ _ (hQ3 i j hi hj) (hQ3 i c hi (by omega)) (hQ3 c c hk (by omega)) (hQ3 c j hk hj)
       · exact q3 c _ (hQ3 i j hi hj)
 · simp only [decide_eq_false_iff_not] at hge
   have e : c = n := by omega
   subst e
   rw [M0k] at hE
   rw [← hE]
   exact ⟨rfl, hM⟩

theorem Z0m {n w : Nat} (A : Nat → Nat → Bk) (hn : n ≤ 32) (hw : w ≤ 32) : O0f (matL n w A) = true ∧ (0 < n → X06 (matL n w A) = w) ∧ (n = 0 → X06 (matL n w A) = 0) := by
 have hc : 0 < n → X06 (matL n w A) = w := by
  intro h
  unfold X06 matL
  obtain ⟨m, rfl⟩ : ∃ m, n = m + 1 := ⟨n - 1, by omega⟩
  rw [List.range_succ_eq_map]
  simp [Q00]
 refine ⟨?_, hc, fun h => by subst h; rfl⟩
 unfold O0f
 rcases Nat.eq_zero_or_pos n with h | h
 · subst h; rfl
 · rw [hc h, I00]
   have e : ((matL n w A).any fun row => decide (row.length ≠ w)) = false := by
    rw [List.any_eq_false]
    intro row hrow
    unfold matL at hrow
    obtain ⟨i, _, rfl⟩ := List.mem_map.1 hrow
    simp [Q00]
   rw [e]
   simp [hn, hw]
theorem S0u {V : View} {p : Sl} {n : Nat} {A : Nat → Nat → Bk} (h : N03 4 boxC V p (matL n n A)) (hn : n ≤ 32) : a00 prog d06 #[p.v] V fun v _ => v = .bool true := by
 refine (u0a h (by rw [I00]; omega)).mono fun v V1 _ hv => ?_
 obtain ⟨h1, h2, h3⟩ := Z0m A hn hn
 rw [hv, h1, I00]
 rcases Nat.eq_zero_or_pos n with e | e
 · rw [h3 e, e]; rfl
 · rw [h2 e]; simp
structure Q0x (n : Nat) (Q : Bk → Prop) (qs : Nat → Nat → Bk → Prop) (qx : Nat → Bk → Prop) : Prop where
 r0 : ∀ j x, j < n → Q x → qs j 0 x
 r1 : ∀ j i s a x, j < n → i < j → qs j i s → Q a → qx j x → qs j (i + 1) (boxO.sub s (boxO.mul a x))
 r2 : ∀ j s a, j < n → qs j j s → Q a → qx (j + 1) (boxO.div s a)
 r3 : ∀ j x, j < n → qx j x → qx (j + 1) x
 k1 : ∀ x, Q x → okB x
 k2 : ∀ j i s, j < n → i ≤ j → qs j i s → okB s
 k3 : ∀ j x, j ≤ n → qx j x → okB x
theorem M0c {V : View} {p q : Sl} {n : Nat} {A : Nat → Nat → Bk} {b : Nat → Bk} (h : N03 4 boxC V p (matL n n A)) (hb : s00 4 boxC V q (rowL n b)) (hn : n ≤ 32)
 (Q : Nat → Bk → Prop) (q1 : ∀ c x, c ≤ n → Q c x → okB x) (q2 : ∀ c x y z u, Q c x → Q c y → Q c z → Q c u → Q (c + 1) (boxO.sub x (boxO.mul (boxO.div y z) u))) (q3 : ∀ c x, Q c x → Q (c + 1) x)
 (hA : ∀ i j, i < n → j < n → Q 0 (A i j)) (hB : ∀ i, i < n → Q 0 (b i)) (qs : Nat → Nat → Bk → Prop) (qx : Nat → Bk → Prop) (hk : Q0x n (Q n) qs qx) :
 a00 prog Z0a #[p.v, q.v] V fun v V' => ∃ r : Sl, match (elim boxO n (n + 1) (S08 A n fun _ i => b i)).2.2 with
  | none => v = .tuple #[r.v, .int .i64 0] ∧ s00 4 boxC V' r (rowL n (t04 boxO Bk.nil (elim boxO n (n + 1) (S08 A n fun _ i => b i)).1 n n))
  | some _ => v = .tuple #[r.v, .int .i64 6] ∧ r = ⟨none, 0, 0⟩ := by
 have hpl : p.len = n := by have := h.len; rw [I00] at this; exact this
 have hql : q.len = n := by have := hb.len; rw [Q00] at this; exact this
 let W := S08 A n fun _ i => b i
 let B := (elim boxO n (n + 1) W).1
 have hWQ : ∀ i j, i < n → j < n + 1 → Q 0 (W i j) := by
  intro i j hi hj
  show Q 0 (if j < n then A i j else b i)
  split
  · exact hA i j hi (by assumption)
  · exact hB i hi
 have hBQ : ∀ i j, i < n → j < n + 1 → Q n (B i j) := H07 boxO Q n (n + 1) q2 q3 n 0 W 0 (by omega) (by omega) hWQ
 refine P09 p q V _ (fun _ _ _ => True)
  (fun _ x V' => ∃ j : Nat, x.t10 = (n : Int) - 1 - j ∧ j ≤ n ∧ G01 4 boxC V' x.o37 (rowL n (t04 boxO Bk.nil B n j)) ∧ ∀ i, n - j ≤ i → i < n → qx j (t04 boxO Bk.nil B n j i))
  (fun _ x _ => (x.t10 + 1).toNat)
  (fun c x V' => ∃ j i : Nat, c.t10 = (n : Int) - 1 - j ∧ j < n ∧ x.t12 = (n : Int) - j + i ∧ i ≤ j ∧ G01 4 boxC V' x.o37 (rowL n (t04 boxO Bk.nil B n j)) ∧ (∀ i, n - j ≤ i → i < n → qx j (t04 boxO Bk.nil B n j i)) ∧
    atB V' x.o11 (q0c boxO B (t04 boxO Bk.nil B n j) (n - (j + 1)) n i) ∧ qs j i (q0c boxO B (t04 boxO Bk.nil B n j) (n - (j + 1)) n i))
  (fun _ x _ => n - x.t12.toNat) ?_
 rw [hpl, hql]
 refine ⟨(S0u h hn).mono fun v V2 l2 hv => ⟨true, hv, fun hf => absurd hf (by simp), fun _ => ⟨fun hf => absurd hf (by simp), fun _ => trivial⟩⟩, ?_⟩
 rintro ⟨u⟩ V1 l1 -
 intro b3 V5 l5 _ hb3
 have hmore : N03 4 boxC V5 ⟨some (Addr.mk b3 0 none), 1, 1⟩ (matL 1 n fun _ i => b i) := by
  have hb5 : s00 4 boxC V5 q (rowL n b) := hb.le (boxC.le (View.le_trans l1 l5)) (View.le_trans l1 l5)
  refine s00.of_block (o := [q.v]) (o' := []) (b := b3) (fun _ => by simpa using hb3) ?_ (by rw [I00]) (Nat.le_refl _) (fun _ => rfl)
  exact ⟨[q.v], [], rfl, rfl, ⟨q, rfl, hb5⟩, rfl⟩
 refine (K07 (h.le boxC.le (View.le_trans l1 l5)) hmore (by omega) (by omega) (by omega)).mono fun v m1 V6 l6 _ ⟨r2, hv, hM⟩ => ⟨r2, hv, ?_⟩
 refine (p06 Q hM (by omega) (by omega) q1 q2 q3 hWQ).mono fun v m2 V7 l7 _ ⟨hv, hM2⟩ => ⟨_, _, hv, by decide, fun V8 l8 hpub => ?_⟩
 have hRB : N03 4 boxC V8 r2 (matL n (n + 1) B) := hM2.known (boxC.le l8) hpub
 have hr2 : r2.len = n := by have := hRB.len; rw [I00] at this; exact this
 cases hstop : (elim boxO n (n + 1) W).2.2 with
 | some c =>
   exact ⟨fun _ => ⟨⟨none, 0, 0⟩, rfl, rfl⟩, fun hf => absurd hf (by simp)⟩
 | none =>
   have hdiag := M0a boxO n (n + 1) n 0 W 0 (by omega) (fun i hi => absurd hi (by omega)) hstop
   refine ⟨fun hf => absurd hf (by simp), fun _ => ?_⟩
   refine ⟨⟨by omega, by omega, by omega, by omega⟩, ⟨0, by rw [i64w (by omega) (by omega)]; show (n : Int) - 1 = _; omega, by omega, ?_, fun i h1 h2 => by omega⟩, ?_⟩
   · have := G01.replicate (sz := 4) (P := boxC) (V := V8) rfl (L0x V8) n
     rw [Int.toNat_natCast]
     have e : rowL n (t04 boxO Bk.nil B n 0) = List.replicate n Bk.nil := d0d n Bk.nil
     rw [e]; exact this
   rintro ⟨t10, o37⟩ V9 l9 ⟨j, e10, hj, hC, hx⟩
   dsimp only at e10 hC ⊢
   refine ⟨fun hge => ?_, fun hlt => ?_⟩
   · have hjn : j < n := by simp at hge; omega
     have ec : t10.toNat = n - (j + 1) := by omega
     obtain ⟨g1, s1, g2, g3⟩ := (hRB.le boxC.le l9).row (t := t10) (by omega) (row := rowL (n + 1) (B (n - (j + 1)))) (by rw [ec]; exact x04 (by omega) B)
     obtain ⟨c1, x, hxx, hxl, hh, hs⟩ := s00.get g3 (t := (n : Int)) (by omega) (z := B (n - (j + 1)) n) (by rw [Int.toNat_natCast]; exact w03 (by omega) _)
     obtain ⟨y, ey, hy⟩ := elB hxx
     subst ey
     refine ⟨g1, s1, g2, c1, y, hh, hs, ⟨j, 0, e10, hjn, by rw [i64w (by omega) (by omega)]; omega, by omega, hC, hx, hy, hk.r0 j _ hjn (hBQ _ _ (by omega) (by omega))⟩, ?_⟩
     clear hh hs hxx hxl g2 g3 c1
     rintro ⟨t12, o11, o37'⟩ V10 l10 ⟨j', i, e10', hj', e12, hi, hC', hx', hS, hqS⟩
     dsimp only at e10' e12 hC' hS ⊢
     obtain rfl : j = j' := by omega
     obtain ⟨g1, s1, g2, g3⟩ := (hRB.le boxC.le (View.le_trans l9 l10)).row (t := t10) (by omega) (row := rowL (n + 1) (B (n - (j + 1)))) (by rw [ec]; exact x04 (by omega) B)
     refine ⟨fun hlt2 => ?_, fun hge2 => ?_⟩
     · have hij : i < j := by simp at hlt2; omega
       have ek : t12.toNat = n - (j + 1) + 1 + i := by omega
       obtain ⟨c1, x, hxx, hxl, hh, hs⟩ := s00.get g3 (t := t12) (by omega) (z := B (n - (j + 1)) (n - (j + 1) + 1 + i)) (by rw [ek]; exact w03 (by omega) _)
       obtain ⟨y1, ey, hy1⟩ := elB hxx
       subst ey
       obtain ⟨x', hx2, hxl2, hg⟩ := hC'.at (i := t12.toNat) (z := t04 boxO Bk.nil B n j (n - (j + 1) + 1 + i)) (by rw [ek]; exact w03 (by omega) _)
       obtain ⟨y2, ey2, hy2⟩ := elB hx2
       subst ey2
       have qa := hBQ (n - (j + 1)) (n - (j + 1) + 1 + i) (by omega) (by omega)
       have qX := hx' (n - (j + 1) + 1 + i) (by omega) (by omega)
       have okx := hk.k3 j _ (by omega) qX
       refine ⟨g1, s1, g2, c1, y1, hh, hs, ⟨by omega, by omega⟩, y2, hg, ?_⟩
       refine (mulB hy1 hy2 (hk.k1 _ qa) okx).mono fun v V11 l11 ⟨r5, hv, h5⟩ => ⟨r5, hv, ?_⟩
       refine (subB (atB.le l11 hS) h5 (hk.k2 j i _ hjn (by omega) hqS) (hk.k1 _ qa) okx).mono fun v V12 l12 ⟨r6, hv, h6⟩ => ⟨r6, hv, ?_⟩
       rw [i64w (by omega) (by omega)]
       exact ⟨⟨j, i + 1, e10, hjn, by omega, by omega, hC'.imp (boxC.le (View.le_trans l11 l12)), hx', h6, hk.r1 j i _ _ _ hjn hij hqS qa qX⟩, by omega⟩
     · have hij : i = j := by simp at hge2; omega
       subst hij
       obtain ⟨c1, x, hxx, hxl, hh, hs⟩ := s00.get g3 (t := t10) (by omega) (z := B (n - (i + 1)) (n - (i + 1))) (by rw [ec]; exact w03 (by omega) _)
       obtain ⟨y1, ey, hy1⟩ := elB hxx
       subst ey
       have qa := hBQ (n - (i + 1)) (n - (i + 1)) (by omega) (by omega)
       refine ⟨g1, s1, g2, c1, y1, hh, hs, ?_⟩
       refine (divB hS hy1 (hk.k2 i i _ hjn (Nat.le_refl _) hqS) (hk.k1 _ qa) (hdiag _ (by omega))).mono fun v V13 l13 ⟨r7, hv, h7⟩ => ⟨r7, 0, hv, ⟨by omega, by omega⟩, ?_, ?_⟩
       · rw [hC'.length, Q00, ec]
         have e2 : (n - (i + 1)) * 4 + 4 = (n - (i + 1) + 1) * 4 := by rw [Nat.add_mul, Nat.one_mul]
         rw [Nat.zero_add, e2]
         exact Nat.mul_le_mul_right _ (by omega)
       · rw [i64w (by omega) (by omega)]
         have hset := (hC'.imp (boxC.le l13)).set0 (i := n - (i + 1)) (by rw [Q00]; omega) (o0x r7) (n0x h7)
         rw [o0e] at hset
         refine ⟨⟨i + 1, by omega, by omega, by rw [ec]; exact hset, fun k h1 h2 => ?_⟩, by omega⟩
         simp only [t04]
         by_cases e : k = n - (i + 1)
         · rw [if_pos e]; exact hk.r2 i _ _ hjn hqS qa
         · rw [if_neg e]; exact hk.r3 i _ hjn (hx' k (by omega) h2)
   · have hjn : j = n := by simp at hlt; omega
     subst hjn
     intro b5 V14 l14 hb5
     rw [Int.toNat_natCast]
     refine ⟨⟨some (Addr.mk b5 0 none), j, j⟩, rfl, ?_⟩
     exact T04 hb5 (hC.imp (boxC.le l14)) (by rw [Q00])

theorem u0l {V : View} {s : Sl} {row : List Bk} (h : s00 4 boxC V s row) {p q : Option Addr} {c : Nat} (hp : V.load p = some (.int .i64 (c : Int))) {x : BoxV} (hq : V.has q x.val.cells.toList) (hq2 : q.isSome = true) {z : Bk} (hz : row[c]? = some z) (ok : okB z) :
 a00 prog u05 #[s.v, .pointer p, .pointer q] V fun v _ => v = .bool (decide (z ≠ J0b 0)) := by
 obtain ⟨c1, y, hxx, hxl, hh, hs⟩ := s00.get h (t := (c : Int)) (by omega) (z := z) (by rw [Int.toNat_natCast]; exact hz)
 obtain ⟨y1, ey, hy1⟩ := elB hxx
 subst ey
 refine Q09 s p q V _ ⟨_, hp, c1, y1, hh, hs, x, hq, hq2, ?_⟩
 refine (P05 (by omega) (by omega)).mono fun v V1 l1 ⟨r1, hv, h1⟩ => ⟨r1, hv, ?_⟩
 refine (f0w x h1 (.inl rfl)).mono fun v V2 l2 ⟨r2, hv, h2⟩ => ⟨r2, hv, ?_⟩
 refine (O0x (atB.le (View.le_trans l1 l2) hy1) h2 ok g0w).mono fun v V3 l3 hv => ⟨_, hv, ?_⟩
 congr 1
 by_cases e : z = J0b 0 <;> simp [e]
theorem N0c {V : View} {p : Sl} {rows : List (List Bk)} (h : N03 4 boxC V p rows) (hn : rows.length ≤ 2 ^ 40) (q : Fn2) {c : Nat} (hp : V.load q.p0 = some (.int .i64 (c : Int))) {x : BoxV} (hq : V.has q.p1 x.val.cells.toList) (hq2 : q.p1.isSome = true)
 (zs : List Bk) (hz : ∀ (i : Nat) (row : List Bk), rows[i]? = some row → ∃ z, zs[i]? = some z ∧ row[c]? = some z) (hzl : zs.length = rows.length) (ok : ∀ z, z ∈ zs → okB z) :
 a00 prog X02 #[p.v, q.val u05] V fun v _ => ∃ r : Int, v = .int .i64 r ∧ (0 ≤ r ↔ ∃ z, z ∈ zs ∧ z ≠ J0b 0) := by
 have hl : p.len = rows.length := h.len
 refine P02 p q V _ (fun _ x _ => ∃ t : Nat, x.t8 = t ∧ t ≤ rows.length ∧ ∀ z, z ∈ zs.take t → z = J0b 0) (fun _ x _ => rows.length - x.t8.toNat) ⟨⟨0, rfl, by omega, by simp⟩, ?_⟩
 rintro ⟨t⟩ V1 l1 ⟨t', ht, htn, hi⟩
 dsimp only at ht ⊢
 subst ht
 refine ⟨fun hlt => ?_, fun hge => ?_⟩
 · simp only [decide_eq_true_eq] at hlt
   have hk : t' < rows.length := by omega
   obtain ⟨z, hz1, hz2⟩ := hz t' rows[t'] (by simp)
   obtain ⟨g1, s, g2, g3⟩ := (h.le boxC.le l1).row (t := (t' : Int)) (by omega) (row := rows[t']) (by simp)
   refine ⟨g1, s, g2, (u0l g3 (d02 l1 hp) (w04 l1 hq) hq2 hz2 (ok z (List.mem_of_getElem? hz1))).mono fun v V2 l2 hv => ⟨_, hv, fun hr => ⟨_, rfl, ?_⟩, fun hr => ?_⟩⟩
   · have hne := of_decide_eq_true hr
     exact ⟨fun _ => ⟨z, List.mem_of_getElem? hz1, hne⟩, fun _ => by omega⟩
   · have he : z = J0b 0 := by simpa using hr
     rw [i64w (by omega) (by omega)]
     refine ⟨⟨t' + 1, by omega, by omega, fun y hy => ?_⟩, by omega⟩
     rw [List.take_add_one, hz1] at hy
     simp only [Option.toList_some, List.mem_append, List.mem_singleton] at hy
     rcases hy with hy | hy
     · exact hi y hy
     · rw [hy]; exact he
 · simp only [decide_eq_false_iff_not] at hge
   have e : t' = zs.length := by omega
   subst e
   rw [List.take_length] at hi
   exact ⟨-1, rfl, fun h => absurd h (by omega), fun ⟨z, h1, h2⟩ => absurd (hi z h1) h2⟩
theorem w0a {V : View} {p : Sl} {rows : List (List Bk)} (h : N03 4 boxC V p rows) (hn : rows.length ≤ 2 ^ 40) (q : Fn2) {c : Nat} (hp : V.load q.p0 = some (.int .i64 (c : Int))) {x : BoxV} (hq : V.has q.p1 x.val.cells.toList) (hq2 : q.p1.isSome = true)
 (zs : List Bk) (hz : ∀ (i : Nat) (row : List Bk), rows[i]? = some row → ∃ z, zs[i]? = some z ∧ row[c]? = some z) (hzl : zs.length = rows.length) (ok : ∀ z, z ∈ zs → okB z) :
 a00 prog B02 #[p.v, q.val u05] V fun v _ => ∃ r : Bool, v = .bool r ∧ (r = true ↔ ∃ z, z ∈ zs ∧ z ≠ J0b 0) := by
 refine A02 p q V _ ((N0c h hn q hp hq hq2 zs hz hzl ok).mono fun v V1 l1 ⟨r, hv, hr⟩ => ⟨r, hv, _, rfl, ?_⟩)
 rw [decide_eq_true_eq]
 exact hr
theorem i0e {V : View} {p : Sl} {n : Nat} {A : Nat → Nat → Bk} (h : N03 4 boxC V p (matL n n A)) (hn : n ≤ 32)
 (Q : Nat → Bk → Prop) (q1 : ∀ c x, c ≤ n → Q c x → okB x) (q2 : ∀ c x y z u, Q c x → Q c y → Q c z → Q c u → Q (c + 1) (boxO.sub x (boxO.mul (boxO.div y z) u))) (q3 : ∀ c x, Q c x → Q (c + 1) x)
 (hA : ∀ i j, i < n → j < n → Q 0 (A i j)) (qd : Nat → Bk → Prop) (d0 : ∀ x, Q n x → qd 0 x) (d1 : ∀ j x a, qd j x → Q n a → qd (j + 1) (boxO.mul x a)) (dk : ∀ j x, j < n → qd j x → okB x) :
 a00 prog b0c #[p.v] V fun v V' => ∃ (r : BoxV) (e : Int), v = .tuple #[r.val, .int .i64 e] ∧ match (elim boxO n n A).2.2 with
  | none => e = 0 ∧ atB V' r (if n = 0 then J0b 1 else if (elim boxO n n A).2.1 % 2 = 1 then Q0u (p08 boxO (elim boxO n n A).1 (n - 1)) else p08 boxO (elim boxO n n A).1 (n - 1))
  | some c => ((∃ i, c ≤ i ∧ i < n ∧ (elim boxO n n A).1 i c ≠ J0b 0) → e = 6) ∧ ((∀ i, c ≤ i → i < n → (elim boxO n n A).1 i c = J0b 0) → e = 0 ∧ atB V' r (J0b 0)) := by
 have hpl : p.len = n := by have := h.len; rw [I00] at this; exact this
 let B := (elim boxO n n A).1
 have hBQ : ∀ i j, i < n → j < n → Q n (B i j) := H07 boxO Q n n q2 q3 n 0 A 0 (by omega) (by omega) hA
 refine y0b p V _
  (fun c x V' => ∃ j : Nat, x.t8 = (j : Int) + 1 ∧ j < n ∧ atB V' x.o7 (p08 boxO B j) ∧ qd j (p08 boxO B j)) (fun _ x _ => n - x.t8.toNat) ?_
 refine (S0u h hn).mono fun v V1 l1 hv => ⟨true, hv, fun hf => absurd hf (by simp), fun _ => ?_⟩
 have hmore : N03 4 boxC V1 ⟨none, 0, 0⟩ (matL 0 n fun _ _ => Bk.nil) := s00.nil
 refine (K07 (h.le boxC.le l1) hmore (by omega) (by omega) (by omega)).mono fun v m1 V3 l3 _ ⟨r2, hv, hM⟩ => ⟨r2, hv, ?_⟩
 have hM : MatR 4 boxC m1 V3 r2 n n A := (show MatR 4 boxC m1 V3 r2 n n _ from hM).congr fun i k hi hk => by unfold S08; rw [if_pos hk]
 refine (p06 Q hM (by omega) (by omega) q1 q2 q3 hA).mono fun v m2 V4 l4 _ ⟨hv, hM2⟩ => ⟨_, _, hv, by decide, fun V5 l5 hpub => ?_⟩
 have hRB : N03 4 boxC V5 r2 (matL n n B) := hM2.known (boxC.le l5) hpub
 have hr2 : r2.len = n := by have := hRB.len; rw [I00] at this; exact this
 have hr2c : r2.len ≤ r2.cap := hRB.cap
 cases hstop : (elim boxO n n A).2.2 with
 | some c =>
   obtain ⟨hc, _⟩ := g07 boxO n n n 0 A 0 (by omega) c hstop
   refine ⟨fun _ b3 V6 l6 hb3 b4 V7 l7 hb4 => ?_, fun hf => absurd hf (by simp)⟩
   have hld : V7.load (some (Addr.mk b3 0 none)) = some (.int .i64 (c : Int)) := by
    have := P04 (j := 0) (l7 _ _ hb3)
    simpa [Addr.add] using this
   have hzv : V7.has (some (Addr.mk b4 0 none)) (zvB).val.cells.toList := p05 (cs := (zvB).val.cells.toList) (j := 0) hb4 (fun i v hv => by rw [Nat.zero_add]; exact hv) rfl
   refine ⟨_, hld, ⟨by omega, by omega, by omega⟩, ?_⟩
   have hdr := (hRB.le boxC.le (View.le_trans l6 l7)).drop (k := c) (by rw [I00]; omega)
   rw [Int.toNat_natCast, Int.toNat_natCast]
   refine (w0a hdr (by simp [I00]; omega) ⟨some (Addr.mk b3 0 none), some (Addr.mk b4 0 none)⟩ hld hzv rfl ((List.range (n - c)).map fun i => B (c + i) c) (fun i row hrow => ?_) (by simp [I00]) (fun z hz => ?_)).mono fun v V8 l8 ⟨r5, hv, hr5⟩ => ⟨r5, hv, fun ht => ?_, fun hf => ?_⟩
   · rw [List.getElem?_drop] at hrow
     have hi : c + i < n := by
      rcases Nat.lt_or_ge (c + i) n with g | g
      · exact g
      · rw [List.getElem?_eq_none (by rw [I00]; omega)] at hrow; simp at hrow
     rw [x04 hi] at hrow
     obtain rfl := Option.some.inj hrow
     exact ⟨B (c + i) c, by rw [List.getElem?_map, List.getElem?_range (by omega)]; rfl, w03 hc _⟩
   · simp only [List.mem_map, List.mem_range] at hz
     obtain ⟨i, hi, rfl⟩ := hz
     exact q1 n _ (Nat.le_refl _) (hBQ _ _ (by omega) hc)
   · refine ⟨zvB, w04 l8 hzv, rfl, zvB, 6, rfl, fun _ => rfl, fun hall => ?_⟩
     exfalso
     obtain ⟨z, hz, hne⟩ := hr5.1 ht
     simp only [List.mem_map, List.mem_range] at hz
     obtain ⟨i, hi, rfl⟩ := hz
     exact hne (hall _ (by omega) (by omega))
   · refine ⟨zvB, w04 l8 hzv, rfl, (P05 (by omega) (by omega)).mono fun v V9 l9 ⟨r6, hv, h6⟩ => ⟨r6, hv, (f0w (zvB) h6 (.inl rfl)).mono fun v V10 l10 ⟨r7, hv, h7⟩ => ⟨r7, hv, r7, 0, rfl, fun ⟨i, h1, h2, h3⟩ => ?_, fun _ => ⟨rfl, h7⟩⟩⟩⟩
     exfalso
     have : r5 = true := hr5.2 ⟨B i c, by simp only [List.mem_map, List.mem_range]; exact ⟨i - c, by omega, by rw [show c + (i - c) = i by omega]⟩, h3⟩
     rw [hf] at this; simp at this
 | none =>
   refine ⟨fun hf => absurd hf (by simp), fun _ => ?_⟩
   rw [hr2]
   refine ⟨fun h0 => ?_, fun h0 => ?_⟩
   · have e : n = 0 := by simp at h0; omega
     refine (P05 (by omega) (by omega)).mono fun v V11 l11 ⟨r8, hv, h8⟩ => ⟨r8, hv, (f0w (zvB) h8 (.inr rfl)).mono fun v V12 l12 ⟨r9, hv, h9⟩ => ⟨r9, hv, r9, 0, rfl, rfl, ?_⟩⟩
     rw [if_pos e]; exact h9
   · have hn0 : 0 < n := by simp at h0; omega
     obtain ⟨g1, s1, g2, g3⟩ := hRB.row (t := (0 : Int)) (by omega) (row := rowL n (B 0)) (x04 hn0 B)
     obtain ⟨c1, x, hxx, hxl, hh, hs⟩ := s00.get g3 (t := (0 : Int)) (by omega) (z := B 0 0) (w03 hn0 _)
     obtain ⟨y, ey, hy⟩ := elB hxx
     subst ey
     rw [hr2] at g1
     refine ⟨g1, s1, g2, c1, y, hh, hs, ⟨0, rfl, hn0, hy, d0 _ (hBQ 0 0 hn0 hn0)⟩, ?_⟩
     clear g2 g3 c1 hh hs hxx hxl
     rintro ⟨t8, o2, o7⟩ V13 l13 ⟨j, e8, hj, hd, hqd⟩
     dsimp only at e8 hd ⊢
     refine ⟨fun hlt => ?_, fun hge => ?_⟩
     · have hj1 : j + 1 < n := by simp at hlt; omega
       have et : t8.toNat = j + 1 := by omega
       obtain ⟨g1, s1, g2, g3⟩ := (hRB.le boxC.le l13).row (t := t8) (by omega) (row := rowL n (B (j + 1))) (by rw [et]; exact x04 hj1 B)
       obtain ⟨c1, x, hxx, hxl, hh, hs⟩ := s00.get g3 (t := t8) (by omega) (z := B (j + 1) (j + 1)) (by rw [et]; exact w03 hj1 _)
       obtain ⟨y1, ey, hy1⟩ := elB hxx
       subst ey
       rw [hr2] at g1
       have qa := hBQ (j + 1) (j + 1) hj1 hj1
       refine ⟨g1, s1, g2, c1, y1, hh, hs, (mulB hd hy1 (dk j _ (by omega) hqd) (q1 n _ (Nat.le_refl _) qa)).mono fun v V14 l14 ⟨r10, hv, h10⟩ => ⟨r10, hv, ?_⟩⟩
       rw [i64w (by omega) (by omega)]
       exact ⟨⟨j + 1, by omega, hj1, h10, d1 j _ _ hqd qa⟩, by omega⟩
     · have hj1 : j = n - 1 := by simp at hge; omega
       subst hj1
       have htm : Int.tmod (((elim boxO n n A).2.1 : Nat) : Int) 2 = (((elim boxO n n A).2.1 % 2 : Nat) : Int) := by rw [Int.tmod_eq_emod_of_nonneg (by omega)]; rfl
       rw [htm]
       refine ⟨fun ho => ?_, fun ho => ?_⟩
       · have e : (elim boxO n n A).2.1 % 2 = 1 := by simp at ho; omega
         refine (negB hd).mono fun v V15 l15 ⟨r11, hv, h11⟩ => ⟨r11, hv, r11, 0, rfl, rfl, ?_⟩
         rw [if_neg (by omega), if_pos e]; exact h11
       · have e : ¬ (elim boxO n n A).2.1 % 2 = 1 := by simp at ho; omega
         refine ⟨o7, 0, rfl, rfl, ?_⟩
         rw [if_neg (by omega), if_neg e]; exact hd

theorem b0o {V : View} {s : Sl} {rs : List RatV} (h : F0f V s rs) (hn : rs.length ≤ 2 ^ 40) : a00 prog I0o #[s.v] V fun v _ => ∃ b : Bool, v = .bool b := by
 have hl := h.len
 refine A0m s V _ (fun _ x _ => 0 ≤ x.t9 ∧ x.t9 ≤ rs.length) (fun _ x _ => rs.length - x.t9.toNat)
  (fun c x V' => 0 ≤ c.t9 ∧ c.t9 < rs.length ∧ 0 ≤ x.t21 ∧ x.t21 ≤ 3) (fun _ x _ => 3 - x.t21.toNat) ?_
 rw [hl]
 refine ⟨⟨Int.le_refl 0, Int.natCast_nonneg _⟩, ?_⟩
 rintro ⟨t⟩ V1 l1 ⟨h0, ht⟩
 dsimp only at h0 ht ⊢
 refine ⟨fun hlt => ?_, fun _ => ⟨true, rfl⟩⟩
 simp only [decide_eq_true_eq] at hlt
 obtain ⟨g1, x, hx, _, hh, hs⟩ := s00.get (h.le l1) h0 (z := rs[t.toNat]'(by omega)) (by simp)
 rw [hl] at g1
 rw [show x = _ from hx] at hh
 refine ⟨g1, _, hh, hs, fun b1 V2 l2 _ hb1 => ⟨⟨h0, hlt, by omega, by omega⟩, ?_⟩⟩
 rintro ⟨u⟩ V3 l3 ⟨_, _, u0, u3⟩
 dsimp only at u0 u3 ⊢
 refine ⟨fun hlt2 => ?_, fun _ => ?_⟩
 · simp only [decide_eq_true_eq] at hlt2
   have hld := P04 (j := u.toNat * 1) (l3 _ _ hb1)
   have : ∃ n : Int, V3.load ((some (Addr.mk b1 0 none)).map (·.add (u.toNat * 1))) = some (.int .i64 n) := by
    rw [hld]
    have : u.toNat = 0 ∨ u.toNat = 1 ∨ u.toNat = 2 := by omega
    rcases this with e | e | e <;> rw [e]
    · exact ⟨_, rfl⟩
    · exact ⟨_, rfl⟩
    · exact ⟨_, rfl⟩
   obtain ⟨n, hn⟩ := this
   refine ⟨⟨u0, by omega, rfl⟩, n, hn, fun _ => ⟨false, rfl⟩, fun _ => ⟨fun _ => ⟨false, rfl⟩, fun _ => ?_⟩⟩
   rw [i64w (by omega) (by omega)]
   exact ⟨⟨h0, hlt, by omega, by omega⟩, by omega⟩
 · rw [i64w (by omega) (by omega)]
   exact ⟨⟨by omega, by omega⟩, by omega⟩
def E0s (w : Cq) (z : Cq) : Bk := (ofB (z - w)).hull (ofB (z + w))
theorem w0l {a w : Rat} (hw : 0 ≤ w) : ((ofS (a - w)).hull (ofS (a + w))).has a = true := by
 have h1 := U0d (a - w)
 have h2 := U0d (a + w)
 have hk := s0d h1 h2
 rw [y0f]
 refine ⟨?_, ?_⟩
 · have e1 : Eb.Le (endE ((ofS (a - w)).hull (ofS (a + w))).lo) (endE (ofS (a - w)).lo) := S0k hk.lo h1.lo (by show min _ _ ≤ _; omega)
   have e2 : Eb.Le (endE (ofS (a - w)).lo) ⟨0, a - w⟩ := (y0f.1 (n0j (a - w))).1
   exact (e1.trans e2).trans (e05.2 (by grind))
 · have e1 : Eb.Le (endE (ofS (a + w)).hi) (endE ((ofS (a - w)).hull (ofS (a + w))).hi) := S0k h2.hi hk.hi (by show _ ≤ max _ _; omega)
   have e2 : Eb.Le ⟨0, a + w⟩ (endE (ofS (a + w)).hi) := (y0f.1 (n0j (a + w))).2
   exact (Eb.Le.trans (e05.2 (by grind)) e2).trans e1
theorem c0o {w z : Cq} (h1 : 0 ≤ w.re) (h2 : 0 ≤ w.im) : (E0s w z).has z = true := by
 show (((ofS (z.re - w.re)).hull (ofS (z.re + w.re))).has z.re && ((ofS (z.im - w.im)).hull (ofS (z.im + w.im))).has z.im) = true
 rw [w0l h1, w0l h2]; rfl
theorem F0s (w z : Cq) : (E0s w z).ok := ⟨s0d (U0d _) (U0d _), s0d (U0d _) (U0d _)⟩
def q0d (k : Int) : Cq := ratQ ⟨k, k, 1024⟩
theorem x0l {V : View} {x : NumV} {z : Cq} (hx : n02 V x z) (hz : z.sz ≤ 2 ^ 20) {p : Option Addr} {k : Int} (hp : V.load p = some (.int .u8 k)) (k0 : 0 ≤ k) (k1 : k ≤ 255) :
 a00 prog a0c #[x.val, .pointer p] V fun v _ => v = (E0s (q0d k) z).v.val := by
 have hI : ratI ⟨k, k, 1024⟩ := ⟨⟨by show _ ≤ k; omega, by show k ≤ _; omega⟩, ⟨by show _ ≤ k; omega, by show k ≤ _; omega⟩, ⟨by show (-9223372036854775808 : Int) ≤ 1024; decide, by show (1024 : Int) ≤ 9223372036854775807; decide⟩⟩
 have hs : (q0d k).sz ≤ 64 := s0l hI
 have h1 := S0f z (q0d k)
 have h2 := x0a z (q0d k)
 refine z0b x p V _ ⟨k, hp, k, hp, ?_⟩
 rw [i64w (by omega) (by omega)]
 refine (N0d hI).mono fun v V1 l1 ⟨r1, hv, g1⟩ => ⟨r1, hv, ?_⟩
 refine (j0a (hx.le l1) g1 (by omega) (by show (q0d k).sz ≤ _; omega)).mono fun v V2 l2 ⟨r2, hv, g2⟩ => ⟨r2, hv, ?_⟩
 refine (Y0m _ g2 (by show (z - q0d k).sz ≤ _; omega)).mono fun v V3 l3 hv => ⟨_, hv, ?_⟩
 have L := View.le_trans l2 l3
 refine (b08 (hx.le (View.le_trans l1 L)) (g1.le L) (by omega) (by show (q0d k).sz ≤ _; omega)).mono fun v V4 l4 ⟨r4, hv, g4⟩ => ⟨r4, hv, ?_⟩
 refine (Y0m _ g4 (by show (z + q0d k).sz ≤ _; omega)).mono fun v V5 l5 hv => ⟨_, hv, ?_⟩
 exact (k0j (B0s _) (B0s _)).mono fun v V6 l6 hv => ⟨_, hv, rfl⟩
theorem G0s {k : Int} (k0 : 0 ≤ k) : 0 ≤ (q0d k).re ∧ 0 ≤ (q0d k).im := by
 have e : (q0d k) = ⟨(k : Rat) / ((1024 : Int) : Rat), (k : Rat) / ((1024 : Int) : Rat)⟩ := rfl
 have h : (0 : Rat) ≤ (k : Rat) / ((1024 : Int) : Rat) := by
  have h1 : ((0 : Int) : Rat) ≤ ((k : Int) : Rat) := Rat.intCast_le_intCast.2 k0
  rw [Rat.div_def]
  exact Rat.mul_nonneg (by simpa using h1) (by decide +kernel)
 rw [e]; exact ⟨h, h⟩
theorem z0g {V : View} {p : Sl} {rows : List (List RatV)} (h : N03 3 ratC V p rows) (hn : rows.length ≤ 2 ^ 32) (hi : ∀ row ∈ rows, row.length ≤ 2 ^ 32 ∧ ∀ r ∈ row, ratI r) :
 a00 prog N0l #[p.v] V fun v V' => ∃ r : Sl, v = r.v ∧ N03 5 numC V' r (rows.map fun row => row.map ratQ) := by
 have hl : p.len = rows.length := h.len
 let f : Nat → Nat → List Cq := fun t i => if i < t then (rows.getD i []).map ratQ else []
 refine w0k p V _ (fun _ x V' => ∃ t : Nat, x.t11 = t ∧ t ≤ rows.length ∧ G01 1 (fun V x row => ∃ s : Sl, x = [s.v] ∧ s00 5 numC V s row) V' x.o8 (rowL rows.length (f t))) (fun _ x _ => rows.length - x.t11.toNat) ?_
 rw [hl]
 refine ⟨⟨by omega, by omega, by omega, by omega⟩, ⟨0, rfl, by omega, ?_⟩, ?_⟩
 · have e : rowL rows.length (f 0) = List.replicate rows.length ([] : List Cq) := by
     rw [← d0d]; exact N08 fun k _ => by show (if k < 0 then _ else _) = _; rw [if_neg (by omega)]
   rw [e, Int.toNat_natCast]
   exact G01.replicate (x := [Value.slice none 0 0]) rfl ⟨⟨none, 0, 0⟩, rfl, s00.nil⟩ _
 rintro ⟨t11, o8⟩ V1 l1 ⟨t, ht, htn, hC⟩
 dsimp only at ht hC ⊢
 subst ht
 have hol : o8.length = rows.length := by rw [hC.length, Q00]; omega
 refine ⟨fun hlt => ?_, fun hge => ?_⟩
 · have hk : t < rows.length := by simp at hlt; omega
   obtain ⟨g1, s, g2, g3⟩ := N03.row (N03.le (P := ratC) (fun _ _ _ h => h) l1 h) (t := (t : Int)) (by omega) (row := rows[t]) (by simp)
   rw [hl] at g1
   have hr := hi rows[t] (List.getElem_mem hk)
   refine ⟨g1, s, g2, (l0b g3 hr.2 hr.1).mono fun v V2 l2 ⟨r, hv, h2⟩ => ⟨r, hv, ⟨by omega, by omega⟩, by rw [hol, Int.toNat_natCast]; omega, ?_⟩⟩
   rw [i64w (by omega) (by omega)]
   refine ⟨⟨t + 1, by omega, by omega, ?_⟩, by omega⟩
   have hC2 := G01.imp (P' := fun V x row => ∃ s : Sl, x = [s.v] ∧ s00 5 numC V s row) (V' := V2) (fun x row ⟨s, e, hs⟩ => ⟨s, e, g0b.le l2 hs⟩) hC
   have := hC2.set0 (i := t) (by rw [Q00]; exact hk) (y := [r.v]) rfl (z := rows[t].map ratQ) ⟨r, rfl, h2⟩
   rw [o0e] at this
   have e : setL o8 (0 + t * 1) [r.v] = o8.set (0 + Int.toNat (t : Int) * 1) r.v := by rw [Int.toNat_natCast]; simp [setL]
   rw [e] at this
   rw [N08 (g := f (t + 1)) (fun k hk2 => ?_)] at this
   · exact this
   · show (if k = t then rows[t].map ratQ else if k < t then _ else _) = if k < t + 1 then _ else _
     by_cases e1 : k = t
     · subst e1; rw [if_pos rfl, if_pos (by omega)]; simp [List.getD, hk]
     · rw [if_neg e1]
       by_cases e2 : k < t
       · rw [if_pos e2, if_pos (by omega)]
       · rw [if_neg e2, if_neg (by omega)]
 · have e : t = rows.length := by simp at hge; omega
   subst e
   intro b1 V3 l3 hb
   have e2 : rowL rows.length (f rows.length) = rows.map fun row => row.map ratQ := by
    apply List.ext_getElem (by simp [rowL])
    intro i h1 h2
    have hi : i < rows.length := by simpa [rowL] using h1
    simp [rowL, f, hi, List.getD]
   rw [e2] at hC
   refine ⟨⟨some (Addr.mk b1 0 none), _, _⟩, rfl, ?_⟩
   rw [Int.toNat_natCast]
   exact T04 hb (G01.imp (P' := fun V x row => ∃ s : Sl, x = [s.v] ∧ s00 5 numC V s row) (V' := V3) (fun x row ⟨s, e, hs⟩ => ⟨s, e, g0b.le l3 hs⟩) hC) (by simp)
def y0l {α : Type} (d : α) (rows : List (List α)) (i j : Nat) : α := (rows.getD i []).getD j d
theorem i0w {α : Type} (d : α) {rows : List (List α)} {w : Nat} (h : ∀ row ∈ rows, row.length = w) : rows = matL rows.length w (y0l d rows) := by
 apply List.ext_getElem (by simp [matL])
 intro i h1 h2
 have hw := h rows[i] (List.getElem_mem h1)
 simp only [matL, List.getElem_map, List.getElem_range]
 apply List.ext_getElem (by simp [rowL, hw])
 intro j g1 g2
 simp only [rowL, List.getElem_map, List.getElem_range, y0l, List.getD, List.getElem?_eq_getElem h1, Option.getD_some]
 rw [List.getElem?_eq_getElem g1]; rfl
theorem c0u {α : Type} (d : α) (l : List α) : l = rowL l.length (fun i => l.getD i d) := by
 apply List.ext_getElem (by simp [rowL])
 intro i h1 h2
 simp [rowL, List.getD, h1]
theorem H0s {row : List RatV} (h : ∀ r ∈ row, ratI r) (j : Nat) : ((row.map ratQ).getD j Cq.zero).sz ≤ 64 := by
 rcases Nat.lt_or_ge j row.length with g | g
 · have e : (row.map ratQ).getD j Cq.zero = ratQ row[j] := by simp [List.getD, g]
   rw [e]; exact s0l (h _ (List.getElem_mem g))
 · have e : (row.map ratQ).getD j Cq.zero = Cq.zero := by simp [List.getD, g]
   rw [e]; have := S04; omega
theorem j0w {rows : List (List RatV)} (h : ∀ row ∈ rows, ∀ r ∈ row, ratI r) (i j : Nat) : (y0l Cq.zero (rows.map fun row => row.map ratQ) i j).sz ≤ 64 := by
 unfold y0l
 rcases Nat.lt_or_ge i rows.length with g | g
 · have e : (rows.map fun row => row.map ratQ).getD i [] = rows[i].map ratQ := by simp [List.getD, g]
   rw [e]; exact H0s (h _ (List.getElem_mem g)) j
 · have e : (rows.map fun row => row.map ratQ).getD i [] = [] := by simp [List.getD, g]
   rw [e]; have := S04; simp [List.getD]; omega
theorem k0w {n : Nat} (h : n ≤ 3) : (64 + 2) * 6 ^ n + n * ((64 + 2) * 6 ^ n + Xb ((64 + 2) * 6 ^ n) n + 2) ≤ 2 ^ 36 ∧ Xb ((64 + 2) * 6 ^ n) n ≤ 2 ^ 30 ∧ (n + 1) * ((64 + 2) * 6 ^ n + 1) ≤ 2 ^ 30 := by
 have : n = 0 ∨ n = 1 ∨ n = 2 ∨ n = 3 := by omega
 rcases this with rfl | rfl | rfl | rfl <;> decide
theorem d0u {z : Cq} (h : (J0b 0).has z = true) : z = Cq.zero := by
 have e : J0b 0 = Bk.nil := by decide +kernel
 rw [e] at h
 have h2 : (Sk.nil.has z.re && Sk.nil.has z.im) = true := h
 rw [Bool.and_eq_true, y0f, y0f] at h2
 have e0 : endE 0 = ⟨0, 0⟩ := by decide +kernel
 have key : ∀ q : Rat, InE ⟨0, q⟩ Sk.nil.set → q = 0 := by
  intro q hq
  have g : InE ⟨0, q⟩ ⟨endE 0, endE 0⟩ := hq
  rw [e0] at g
  have a1 := e05.1 g.1
  have a2 := e05.1 g.2
  grind
 exact Cq.ext' (key _ h2.1) (key _ h2.2)
theorem A0g {V : View} {p q : Sl} {rows : List (List RatV)} {bs : List RatV} {k : Int} (h : N03 3 ratC V p rows) (hb : F0f V q bs) (_ : rows.length ≤ maxLen) (hi : ∀ row ∈ rows, row.length ≤ maxLen ∧ ∀ r ∈ row, ratI r) (hib : ∀ r ∈ bs, ratI r) (k0 : 0 ≤ k) (k1 : k ≤ 255) :
 a00 prog Y0d #[p.v, q.v, .int .u8 k] V fun v _ => v = .bool true := by
 have hpl : p.len = rows.length := h.len
 have hql : q.len = bs.length := hb.len
 have hw := G0s k0
 let R' := rows.map fun row => row.map ratQ
 let A := y0l Cq.zero R'
 let b : Nat → Cq := fun i => (bs.map ratQ).getD i Cq.zero
 let Bx : Nat → Nat → Bk := fun i j => E0s (q0d k) (A i j)
 let bx : Nat → Bk := fun i => E0s (q0d k) (b i)
 have sA : ∀ i j, (A i j).sz ≤ 64 := j0w fun row hr => (hi row hr).2
 have sb : ∀ i, (b i).sz ≤ 64 := H0s hib
 let rowB : View → List Value → List Bk → Prop := fun V x row => ∃ s : Sl, x = [s.v] ∧ s00 4 boxC V s row
 have rowB_le : ∀ {V V' : View}, V.le V' → ∀ x row, rowB V x row → rowB V' x row := fun hle x row ⟨s, e, hs⟩ => ⟨s, e, s00.le (boxC.le hle) hle hs⟩
 refine c0d p q k V _ (fun _ _ _ => rows.length ≤ 3 ∧ bs.length = rows.length)
  (fun _ x _ => ∃ t : Nat, x.t44 = t ∧ t ≤ rows.length ∧ ∀ row, row ∈ rows.take t → row.length = rows.length) (fun _ x _ => rows.length - x.t44.toNat)
  (fun _ x V' => ∃ (t : Nat) (l4 l7 : List Value), x.t69 = t ∧ t ≤ rows.length ∧ H04 1 x.t12l x.t12c x.o12 l4 ∧ x.t12l = t ∧ G01 1 rowB V' l4 (matL t rows.length Bx) ∧ H04 4 x.t13l x.t13c x.o13 l7 ∧ x.t13l = t ∧ G01 4 boxC V' l7 (rowL t bx))
  (fun _ x _ => rows.length - x.t69.toNat)
  (fun c x V' => ∃ (t m : Nat) (l4 l7 l : List Value), c.t69 = t ∧ t < rows.length ∧ H04 1 c.t12l c.t12c x.o12 l4 ∧ c.t12l = t ∧ G01 1 rowB V' l4 (matL t rows.length Bx) ∧ H04 4 c.t13l c.t13c x.o13 l7 ∧ c.t13l = t ∧ G01 4 boxC V' l7 (rowL t bx) ∧
    x.t76 = m ∧ m ≤ rows.length ∧ H04 4 x.t16l x.t16c x.o16 l ∧ x.t16l = m ∧ G01 4 boxC V' l (rowL m (Bx t)))
  (fun _ x _ => rows.length - x.t76.toNat)
  (fun _ _ _ => True)
  (fun c _ V' => ∃ (X : Nat → Bk) (Y : Nat → Cq), s00 4 boxC V' c.t23 (rowL rows.length X) ∧ g0b V' c.t24 (rowL rows.length Y) ∧ ∀ i, i < rows.length → (X i).has (Y i) = true ∧ (Y i).sz ≤ 2 ^ 30)
  (fun c x V' => ∃ (X : Nat → Bk) (Y : Nat → Cq) (t : Nat), s00 4 boxC V' c.t23 (rowL rows.length X) ∧ g0b V' c.t24 (rowL rows.length Y) ∧ (∀ i, i < rows.length → (X i).has (Y i) = true ∧ (Y i).sz ≤ 2 ^ 30) ∧ x.t147 = t ∧ t ≤ rows.length)
  (fun _ x _ => rows.length - x.t147.toNat) ?_
 rw [hpl, hql]
 refine ⟨p0d.mono fun v V2 l2 hv => ⟨true, hv, fun hf => absurd hf (by simp), fun _ => ⟨fun _ => ?_, fun h3 => ⟨fun _ => ?_, fun h4 => ?_⟩⟩⟩, ?_⟩
 · exact p0d.mono fun v V4 l4 hv => ⟨true, hv, rfl⟩
 · exact p0d.mono fun v V4 l4 hv => ⟨true, hv, rfl⟩
 · exact ⟨by simp at h3; omega, by simp at h4; omega⟩
 rintro ⟨u⟩ V1 l1 ⟨hn3, hbn⟩
 obtain ⟨bd1, bd2, bd3⟩ := k0w hn3
 refine ⟨⟨0, rfl, by omega, by simp⟩, ?_⟩
 rintro ⟨t44⟩ V6 l6 ⟨t, ht, htn, hrect⟩
 dsimp only at ht ⊢
 subst ht
 have L6 := View.le_trans l1 l6
 refine ⟨fun hlt => ?_, fun hge => ?_⟩
 · have hk : t < rows.length := by simp at hlt; omega
   obtain ⟨g1, s, g2, g3⟩ := N03.row (N03.le (P := ratC) (fun _ _ _ h => h) L6 h) (t := (t : Int)) (by omega) (row := rows[t]) (by simp)
   rw [hpl] at g1
   refine ⟨g1, s, g2, fun _ => rfl, fun hne => (b0o g3 (by have := g3.len; simp at hne; omega)).mono fun v V7 l7 ⟨r5, hv⟩ => ⟨r5, hv, fun _ => rfl, fun _ => ?_⟩⟩
   rw [i64w (by omega) (by omega)]
   refine ⟨⟨t + 1, by omega, by omega, fun row hrow => ?_⟩, by omega⟩
   rw [List.take_add_one, List.getElem?_eq_getElem hk] at hrow
   simp only [Option.toList_some, List.mem_append, List.mem_singleton] at hrow
   rcases hrow with hrow | hrow
   · exact hrect row hrow
   · subst hrow; have := g3.len; simp at hne; omega
 have et : t = rows.length := by simp at hge; omega
 subst et
 rw [List.take_length] at hrect
 have hR' : R' = matL rows.length rows.length A := by
  have := i0w Cq.zero (rows := R') (w := rows.length) (fun row hrow => by
   obtain ⟨r, hr, rfl⟩ := List.mem_map.1 hrow
   rw [List.length_map]; exact hrect r hr)
  rw [show R'.length = rows.length from List.length_map ..] at this
  exact this
 have hb' : bs.map ratQ = rowL rows.length b := by
  have := c0u Cq.zero (bs.map ratQ)
  rw [List.length_map, hbn] at this; exact this
 refine (b0o (hb.le L6) (by omega)).mono fun v V8 l8 ⟨r6, hv⟩ => ⟨r6, hv, fun _ => rfl, fun _ b1 V9 l9 hb1 => ?_⟩
 have L9 := View.le_trans L6 (View.le_trans l8 l9)
 have hld : V9.load (some (Addr.mk b1 0 none)) = some (.int .u8 k) := by
  have := P04 (j := 0) hb1
  simpa [Addr.add] using this
 refine (z0g (N03.le (P := ratC) (fun _ _ _ h => h) L9 h) (by omega) (fun row hr => ⟨by have := hrect row hr; omega, (hi row hr).2⟩)).mono fun v V10 l10 ⟨r7, hv, h7⟩ => ⟨r7, hv, ?_⟩
 refine (l0b (hb.le (View.le_trans L9 l10)) hib (by omega)).mono fun v V11 l11 ⟨r8, hv, h8⟩ => ⟨r8, hv, ?_⟩
 rw [show (rows.map fun row => row.map ratQ) = matL rows.length rows.length A from hR'] at h7
 rw [hb'] at h8
 have h7l : r7.len = rows.length := by have := h7.len; rw [I00] at this; exact this
 have h8l : r8.len = rows.length := by have := h8.len; rw [Q00] at this; exact this
 rw [h7l]
 refine ⟨⟨0, [], [], rfl, by omega, H04.nil, rfl, rfl, H04.nil, rfl, rfl⟩, ?_⟩
 rintro ⟨t12l, t12c, t13l, t13c, t69, o12, o13⟩ V12 l12 ⟨t, l4, l7, e69, ht, k4, e12, c4, k7, e13, c7⟩
 dsimp only at e69 k4 e12 c4 k7 e13 c7 ⊢
 subst e69; subst e12
 obtain rfl : t12l = t13l := e13.symm
 have L12 := View.le_trans l11 l12
 refine ⟨fun hlt => ?_, fun hge => ?_⟩
 · have hk : t12l < rows.length := by simp at hlt; omega
   obtain ⟨g1, s, g2, g3⟩ := (h7.le numC.le L12).row (t := (t12l : Int)) (by omega) (row := rowL rows.length (A t12l)) (by rw [Int.toNat_natCast]; exact x04 hk A)
   rw [h7l] at g1
   have g3l : s.len = rows.length := by have := g3.len; rw [Q00] at this; exact this
   refine ⟨g1, s, g2, ?_⟩
   rw [g3l]
   refine ⟨⟨t12l, 0, l4, l7, [], rfl, hk, k4, rfl, c4, k7, rfl, c7, rfl, by omega, H04.nil, rfl, rfl⟩, ?_⟩
   rintro ⟨t16l, t16c, t76, o12', o13', o16⟩ V13 l13 ⟨t', m, l4', l7', l, f69, _, k4', f12, c4', k7', f13, c7', f76, hm, k16, f16, c16⟩
   dsimp only at f69 k4' f12 c4' k7' f13 c7' f76 k16 f16 c16 ⊢
   subst f12; subst f76; subst f16
   have L13 := View.le_trans L12 l13
   have hld13 := d02 (View.le_trans l10 L13) hld
   refine ⟨fun hlt2 => ?_, fun hge2 => ?_⟩
   · have hm2 : t16l < rows.length := by simp at hlt2; omega
     obtain ⟨d1, x, hx, hxl, hh, hs⟩ := s00.get (s00.le (numC.le l13) l13 g3) (t := (t16l : Int)) (by omega) (z := A t12l t16l) (by rw [Int.toNat_natCast]; exact w03 hm2 _)
     rw [g3l] at d1
     obtain ⟨y, rfl, hy⟩ := hx
     refine ⟨d1, y, hh, hs, (x0l hy (by have := sA t12l t16l; omega) hld13 k0 k1).mono fun v V14 l14 hv => ⟨_, hv, fun b2 V15 l15 _ hb2 => ?_⟩⟩
     have hnew : V15.has (some (Addr.mk b2 0 none)) (Bx t12l t16l).v.val.cells.toList := p05 (cs := (Bx t12l t16l).v.val.cells.toList) (j := 0) hb2 (fun i v hv => by rw [Nat.zero_add]; exact hv) rfl
     have hbx : boxC V15 (Bx t12l t16l).v.val.cells.toList (Bx t12l t16l) := ⟨rfl, F0s _ _⟩
     refine ⟨l, _, k16, hnew, rfl, oneB hbx, by unfold maxLen; omega, by omega, fun c1 l3 hl3 => ?_⟩
     rw [i64w (by omega) (by omega)]
     have L15 := View.le_trans l14 l15
     refine ⟨⟨t12l, t16l + 1, l4', l7', _, rfl, hk, k4', rfl, c4'.imp (rowB_le L15), k7', rfl, c7'.imp (boxC.le L15), by omega, by omega, hl3, rfl, ?_⟩, by omega⟩
     rw [← o0c]
     exact (c16.imp (boxC.le L15)).append (G01.one rfl hbx)
   · have em : t16l = rows.length := by simp at hge2; omega
     intro b3 V16 l16 hb3
     have L16 := View.le_trans L13 l16
     obtain ⟨d1, x, hx, hxl, hh, hs⟩ := s00.get (h8.le (View.le_trans l12 (View.le_trans l13 l16))) (t := (t12l : Int)) (by omega) (z := b t12l) (by rw [Int.toNat_natCast]; exact w03 hk _)
     rw [h8l] at d1 ⊢
     obtain ⟨y, rfl, hy⟩ := hx
     refine ⟨d1, y, hh, hs, fun b4 V17 l17 _ hb4 => ?_⟩
     have hrow : s00 4 boxC V16 ⟨lstA b3 t16c, t16l, t16c⟩ (rowL t16l (Bx t12l)) := l07 k16 hb3 (c16.imp (boxC.le l16)) (by rw [Q00])
     have hnew : V17.has (some (Addr.mk b4 0 none)) [Value.slice (lstA b3 t16c) t16l t16c] := p05 (cs := [Value.slice (lstA b3 t16c) t16l t16c]) (j := 0) hb4 (fun i v hv => by rw [Nat.zero_add]; exact hv) rfl
     refine ⟨l4', _, k4', hnew, rfl, by intro v hv; simp at hv; subst hv; rfl, by unfold maxLen; omega, by omega, fun c2 l6 hl6 => ?_⟩
     refine (x0l (n02.le l17 hy) (by have := sb t12l; omega) (d02 (View.le_trans l16 l17) hld13) k0 k1).mono fun v V18 l18 hv => ⟨_, hv, fun b5 V19 l19 _ hb5 => ?_⟩
     have hnew2 : V19.has (some (Addr.mk b5 0 none)) (bx t12l).v.val.cells.toList := p05 (cs := (bx t12l).v.val.cells.toList) (j := 0) hb5 (fun i v hv => by rw [Nat.zero_add]; exact hv) rfl
     have hbx : boxC V19 (bx t12l).v.val.cells.toList (bx t12l) := ⟨rfl, F0s _ _⟩
     refine ⟨l7', _, k7', hnew2, rfl, oneB hbx, by unfold maxLen; omega, by omega, fun c3 l9 hl9 => ?_⟩
     rw [i64w (by omega) (by omega)]
     have M1 := View.le_trans l17 (View.le_trans l18 l19)
     have M2 := View.le_trans l16 M1
     refine ⟨⟨t12l + 1, _, _, by omega, by omega, hl6, rfl, ?_, hl9, rfl, ?_⟩, by omega⟩
     · have e : matL (t12l + 1) rows.length Bx = matL t12l rows.length Bx ++ [rowL rows.length (Bx t12l)] := by simp [matL, List.range_succ]
       rw [e]
       rw [em] at hrow ⊢
       exact (c4'.imp (rowB_le M2)).append (G01.one rfl ⟨_, rfl, s00.le (boxC.le M1) M1 hrow⟩)
     · rw [← o0c]
       exact (c7'.imp (boxC.le M2)).append (G01.one rfl hbx)
 have et : t12l = rows.length := by simp at hge; omega
 rw [et] at c4 c7
 intro b6 V20 l20 hb6
 have hL : N03 4 boxC V20 ⟨lstA b6 t12c, t12l, t12c⟩ (matL rows.length rows.length Bx) := l07 k4 hb6 (c4.imp (rowB_le l20)) (by rw [I00]; exact et)
 have h7' : N03 5 numC V20 r7 (matL rows.length rows.length A) := h7.le numC.le (View.le_trans L12 l20)
 have hInc : ∀ i j, (Bx i j).has (A i j) = true := fun i j => c0o hw.1 hw.2
 have hIncb : ∀ i, (bx i).has (b i) = true := fun i => c0o hw.1 hw.2
 refine (i0e hL (by omega) (fun _ _ => True) (fun _ _ _ _ => trivial) (fun _ _ _ _ _ _ _ _ _ => trivial) (fun _ _ _ => trivial) (fun _ _ _ _ => trivial) (fun _ _ => True) (fun _ _ => trivial) (fun _ _ _ _ _ => trivial) (fun _ _ _ _ => trivial)).mono
  fun v V21 l21 ⟨r11, r12, hv, hdet⟩ => ⟨r11, r12, hv, ?_, ?_⟩
 · refine (n0s 64 (h7'.le numC.le l21) (by omega) (fun i j _ _ => sA i j) (by omega)).mono fun v V23 l23 ⟨r13, r14, z, hv, _, hz, hzs, hze⟩ => ⟨r13, r14, hv, fun h0 => ?_, fun _ => trivial⟩
   have h0 : r12 = 0 := by simpa using h0
   have hzd : z = detN rows.length A := hze
   have hinc := N0v hn3 (C := Bx) (A := A) (fun i j _ _ => hInc i j)
   have key : ∃ t : Bk, atB V23 r11 t ∧ t.has z = true := by
    rw [hzd]
    cases hst : (elim boxO rows.length rows.length Bx).2.2 with
    | none =>
      rw [hst] at hdet hinc
      obtain ⟨_, hd⟩ := hdet
      rcases Nat.eq_zero_or_pos rows.length with e0 | e0
      · rw [if_pos e0] at hd
        refine ⟨_, hd, ?_⟩
        rw [e0]
        exact C0s _
      · rw [if_neg (by omega)] at hd
        exact ⟨_, hd, hinc e0⟩
    | some c =>
      rw [hst] at hdet hinc
      obtain ⟨hc, hz0⟩ := hinc
      by_cases hall : ∀ i, c ≤ i → i < rows.length → (elim boxO rows.length rows.length Bx).1 i c = J0b 0
      · obtain ⟨_, hd⟩ := hdet.2 hall
        refine ⟨_, hd, ?_⟩
        rw [hz0 (fun i h1 h2 z hz => d0u (by rw [← hall i h1 h2]; exact hz))]
        exact C0s _
      · exfalso
        have : r12 = 6 := hdet.1 (Classical.byContradiction fun hne => hall fun i h1 h2 => Classical.byContradiction fun h3 => hne ⟨i, h1, h2, h3⟩)
        omega
   obtain ⟨t, ⟨ht1, ht2⟩, ht3⟩ := key
   rw [ht1]
   refine (p0a ht2 hz (by omega)).mono fun v V24 l24 hv => ⟨_, hv, fun hf => ?_, fun _ => trivial⟩
   rw [ht3] at hf; simp at hf
 rintro ⟨u⟩ V22 l22 -
 intro b7 V25 l25 hb7
 have M25 := View.le_trans l21 (View.le_trans l22 l25)
 have hv' : s00 4 boxC V25 ⟨lstA b7 t13c, t12l, t13c⟩ (rowL rows.length bx) := l07 k7 hb7 (c7.imp (boxC.le (View.le_trans l20 M25))) (by rw [Q00]; exact et)
 refine (M0c (hL.le boxC.le M25) hv' (by omega) (fun _ _ => True) (fun _ _ _ _ => trivial) (fun _ _ _ _ _ _ _ _ _ => trivial) (fun _ _ _ => trivial) (fun _ _ _ _ => trivial) (fun _ _ => trivial) (fun _ _ _ => True) (fun _ _ => True)
  ⟨fun _ _ _ _ => trivial, fun _ _ _ _ _ _ _ _ _ _ => trivial, fun _ _ _ _ _ _ => trivial, fun _ _ _ _ => trivial, fun _ _ => trivial, fun _ _ _ _ _ _ => trivial, fun _ _ _ _ => trivial⟩).mono fun v V26 l26 ⟨r16, hs16⟩ => ?_
 have hIncW : Inc rows.length (rows.length + 1) (S08 Bx rows.length fun _ i => bx i) (augN rows.length A b) := by
  intro i j _ _
  show ((if j < rows.length then Bx i j else bx i)).has (if j < rows.length then A i j else b i) = true
  split
  · exact hInc i j
  · exact hIncb i
 have hN := U0m 64 (h7'.le numC.le (View.le_trans M25 l26)) (b := b) (q := r8) (h8.le (View.le_trans l12 (View.le_trans l20 (View.le_trans M25 l26)))) (by omega) (fun i j _ _ => sA i j) (fun i _ => sb i) bd1 (by omega)
 cases hst : (elim boxO rows.length (rows.length + 1) (S08 Bx rows.length fun _ i => bx i)).2.2 with
 | some c =>
   rw [hst] at hs16
   obtain ⟨hv, hr16⟩ := hs16
   refine ⟨r16, 6, hv, hN.mono fun v V27 l27 ⟨r18, hs18⟩ => ?_⟩
   have hr : ∃ e : Int, v = .tuple #[r18.v, .int .i64 e] := by
    cases hst2 : (elim numO rows.length (rows.length + 1) (augN rows.length A b)).2.2 with
    | none => rw [hst2] at hs18; exact ⟨0, hs18.1⟩
    | some c => rw [hst2] at hs18; exact ⟨6, hs18.1⟩
   obtain ⟨e, hv2⟩ := hr
   refine ⟨r18, e, hv2, fun _ => by rw [hr16]; rfl, fun hf => absurd hf (by simp)⟩
 | none =>
   have hsol := U0r hn3 hIncW hst
   rw [hst] at hs16
   obtain ⟨hv, hx16⟩ := hs16
   refine ⟨r16, 0, hv, hN.mono fun v V27 l27 ⟨r18, hs18⟩ => ?_⟩
   rw [hsol.1] at hs18
   obtain ⟨hv2, hx18, hsz⟩ := hs18
   refine ⟨r18, 0, hv2, fun hf => absurd hf (by simp), fun _ => ⟨⟨fun hf => absurd hf (by simp), fun _ => ⟨fun hf => ?_, fun _ => ?_⟩⟩, ?_⟩⟩
   · exfalso
     have e1 := hx16.len
     have e2 := hx18.len
     rw [Q00] at e1 e2
     rw [e1, e2] at hf
     simp at hf
   · exact ⟨_, _, s00.le (boxC.le l27) l27 hx16, hx18, fun i hi => ⟨hsol.2 i hi, by have := hsz i hi; omega⟩⟩
   · rintro ⟨u⟩ V28 l28 ⟨X, Y, hX, hY, hXY⟩
     refine ⟨⟨X, Y, 0, hX, hY, hXY, rfl, by omega⟩, ?_⟩
     have eX : r16.len = rows.length := by have := hX.len; rw [Q00] at this; exact this
     have eY : r18.len = rows.length := by have := hY.len; rw [Q00] at this; exact this
     rintro ⟨t147⟩ V29 l29 ⟨X, Y, t, hX, hY, hXY, ht, htn⟩
     dsimp only at hX hY ht ⊢
     subst ht
     refine ⟨fun hlt => ?_, fun _ => rfl⟩
     have hk : t < rows.length := by simp at hlt; omega
     obtain ⟨d1, x, ⟨rfl, hxo⟩, hxl, hh, hs⟩ := s00.get hX (t := (t : Int)) (by omega) (z := X t) (by rw [Int.toNat_natCast]; exact w03 hk _)
     obtain ⟨d2, y, hy, hyl, hh2, hs2⟩ := s00.get hY (t := (t : Int)) (by omega) (z := Y t) (by rw [Int.toNat_natCast]; exact w03 hk _)
     obtain ⟨yn, rfl, hyn⟩ := hy
     refine ⟨d1, _, hh, hs, d2, yn, hh2, hs2, (p0a hxo hyn (by have := (hXY t hk).2; omega)).mono fun v V30 l30 hv => ⟨_, hv, fun hf => ?_, fun _ => ?_⟩⟩
     · rw [(hXY t hk).1] at hf; simp at hf
     · rw [i64w (by omega) (by omega)]
       exact ⟨⟨X, Y, t + 1, s00.le (boxC.le l30) l30 hX, hY.le l30, hXY, by omega, by omega⟩, by omega⟩
