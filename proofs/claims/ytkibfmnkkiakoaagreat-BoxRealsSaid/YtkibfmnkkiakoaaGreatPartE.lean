/- Part. -/
import Derived.Test.YtkibfmnkkiakoaaGreatPartD
import Derived.Laws.StructEq
namespace Go.Proofs.YtkibfmnkkiakoaaGreat
open Go Go.Vc Go.Proofs
open Go.Proofs.Tryz (prog)
open Go.IntKind (i64 u64 u32 u8)
theorem J09 (a b : Rat) : (⟨a, 0⟩ : Cq) * ⟨b, 0⟩ = ⟨a * b, 0⟩ := Cq.ext' (by rw [O06]; grind) (by rw [P06]; grind)
theorem C0c (a b : Rat) : (⟨a, 0⟩ : Cq) + ⟨b, 0⟩ = ⟨a + b, 0⟩ := Cq.ext' (by rw [f09]) (by rw [g09]; grind)
theorem E0h (a : Rat) : -(⟨a, 0⟩ : Cq) = ⟨-a, 0⟩ := Cq.ext' (by rw [W0b]) (by rw [X0b]; grind)
theorem X0u (x : Nat) : fq x = fkq (key x) := rfl
theorem M0v : fq 0 = 0 := by
 unfold fq
 have : kz (key 0) = 0 := by decide
 rw [this]; rw [Rat.div_def]; exact Rat.zero_mul _
structure BdAt (V : View) (b : BdV) (e : Eb) : Prop where
 inf : b.inf = e.inf
 num : L01 V b.x e.num
 ok : e.ok
theorem BdAt.le {V V' : View} {b : BdV} {e : Eb} (hle : V.le V') (h : BdAt V b e) : BdAt V' b e := ⟨h.inf, h.num.le hle, h.ok⟩
theorem BdAt.range {V : View} {b : BdV} {e : Eb} (h : BdAt V b e) : e.inf = 0 ∨ e.inf = 1 ∨ e.inf = -1 := by
 rcases h.ok with h | ⟨_, h⟩
 · exact .inl h
 · exact .inr h
theorem BdAt.zero (V : View) : BdAt V (BdV.mk 0 (NumV.mk (WhV.mk false (Sl.mk none 0 0)) (WhV.mk false (Sl.mk none 0 0)) (Sl.mk none 0 0))) (Eb.fin 0) := ⟨rfl, L01.zero V, .inl rfl⟩
theorem BdAt.infty (V : View) {i : Int} (h : i = 1 ∨ i = -1) : BdAt V (BdV.mk i (NumV.mk (WhV.mk false (Sl.mk none 0 0)) (WhV.mk false (Sl.mk none 0 0)) (Sl.mk none 0 0))) ⟨i, 0⟩ := ⟨rfl, L01.zero V, .inr ⟨rfl, h⟩⟩
theorem BdAt.signs (V : View) {i : Int} (h : (⟨i, 0⟩ : Eb).ok) : BdAt V (BdV.mk i (NumV.mk (WhV.mk false (Sl.mk none 0 0)) (WhV.mk false (Sl.mk none 0 0)) (Sl.mk none 0 0))) ⟨i, 0⟩ := ⟨rfl, L01.zero V, h⟩
theorem m0t {r : Nat} (h : r ≤ infR) : rm r < 2 ^ 2099 := by
 have h1 : rm r ≤ rm infR := L08.2 h
 obtain ⟨e, he⟩ : ∃ e, e = 2046 := ⟨_, rfl⟩
 rw [Q0e he] at h1
 exact Nat.lt_of_le_of_lt h1 (z0s (a := 52 + e) (b := 2099) (by omega))
theorem a09 (D : Nat) : (0 : Rat) = ((0 : Int) : Rat) / (D : Rat) := by simp [Rat.div_def]
theorem S0l {k : Int} (h : inK k) : (⟨fkq k, 0⟩ : Cq).sz ≤ 2100 := by
 have R : Rep ⟨fkq k, 0⟩ (kz k) 0 (2 ^ 1074) := ⟨j0t, rfl, a09 _⟩
 have hk : (kz k).natAbs = rm k.natAbs := by unfold kz; split <;> omega
 refine R.sz ?_ (by simp [f06]) ?_
 · rw [hk]
   have h2 : k.natAbs ≤ infR := by unfold inK at h; omega
   have := I02 (m0t h2)
   omega
 · have := Z01 1074; omega
theorem d08 {k : Int} (h : inK k) : (endE k).num.sz ≤ 2100 := by
 have z : (Cq.zero).sz ≤ 2100 := Nat.le_trans H04 (by omega)
 unfold endE Eb.num
 split
 · exact z
 · split
   · exact z
   · exact S0l h
theorem f0f {V : View} {x : Nat} (h : finW x) : a00 prog U0m #[.float .f64 x] V fun v V' => ∃ r : NumV, v = r.val ∧ L01 V' r ⟨fkq (key x), 0⟩ := by
 refine b0l x V _ ((P0l (c := CxV.mk x 0) h (show finW 0 from ⟨by decide, by decide⟩)).mono fun v V1 _ ⟨r, hv, hr⟩ => ⟨r, 0, hv, r, rfl, ?_⟩)
 have hr : L01 V1 r ⟨fq x, fq 0⟩ := hr
 rw [M0v, X0u] at hr; exact hr
theorem X0o {V : View} {x : Nat} (h : okW x) : a00 prog W0r #[.float .f64 x] V fun v V' => ∃ b : BdV, v = b.val ∧ BdAt V' b (endE (key x)) := by
 have hk := a0t h
 refine I0q x V _ ((L0d h.1).mono fun v V1 _ hv => ⟨_, hv, fun hc => ?_, fun hc => ?_⟩)
 · have hc : key x = (infR : Int) := by simp only [decide_eq_true_eq] at hc; exact hc.2
   refine ⟨_, rfl, ?_⟩
   unfold endE; rw [if_pos hc]; exact .infty V1 (.inl rfl)
 have hc : key x ≠ (infR : Int) := by simp only [decide_eq_false_iff_not] at hc; exact fun e => hc ⟨h, e⟩
 refine (F09 h.1).mono fun v V2 _ hv => ⟨_, hv, fun hd => ?_, fun hd => ?_⟩
 · have hd : key x = -(infR : Int) := by simp only [decide_eq_true_eq] at hd; exact hd.2
   refine ⟨_, rfl, ?_⟩
   unfold endE; rw [if_neg hc, if_pos hd]; exact .infty V2 (.inr rfl)
 have hd : key x ≠ -(infR : Int) := by simp only [decide_eq_false_iff_not] at hd; exact fun e => hd ⟨h, e⟩
 have hf : finW x := by
  refine ⟨h.1, ?_⟩
  have a := Z0i h.1
  have : (key x).natAbs < infR := by omega
  omega
 refine (f0f hf).mono fun v V3 _ ⟨r, hv, hr⟩ => ⟨r, hv, _, rfl, ?_⟩
 unfold endE; rw [if_neg hc, if_neg hd]; exact ⟨rfl, hr, .inl rfl⟩
theorem d0d {V : View} (a b : Int) : a00 prog a0b #[.int .i64 a, .int .i64 b] V fun v _ => v = .int .i64 (cmpZ a b) := by
 have nan : ∀ {V : View} (a : Int), a00 prog m0d #[.int .i64 a] V fun v _ => v = .bool false := fun a => n0c a _ _ (by simp)
 refine x0a a b V _ ((nan a).mono fun v V1 _ hv => ⟨_, hv, (nan b).mono fun v V2 _ hv => ⟨_, hv, fun h => absurd h (by simp), fun _ => ⟨fun h => absurd h (by simp), fun _ => ⟨fun h => ?_, fun h => ⟨fun h' => ?_, fun h' => ?_⟩⟩⟩⟩⟩)
 · rw [L0e (by simpa using h)]
 · rw [M0e (by simpa using h')]
 · simp only [decide_eq_false_iff_not] at h h'
   rw [X0i (by omega)]
theorem U0n (x y : Rat) : (⟨x, 0⟩ : Cq).cmp ⟨y, 0⟩ = cmpR x y := by
 unfold Cq.cmp
 dsimp only
 by_cases c : cmpR x y = 0
 · rw [c]; rw [if_neg (by simp)]; unfold cmpR; rw [if_neg (by grind), if_pos rfl]
 · rw [if_pos c]
theorem C03 {V : View} {a b : BdV} {e f : Eb} (ha : BdAt V a e) (hb : BdAt V b f) (hz : e.num.sz ≤ 2 ^ 40) (hw : f.num.sz ≤ 2 ^ 40) :
 a00 prog E0m #[a.val, b.val] V fun v _ => v = .int .i64 (e.cmp f) := by
 have ia := ha.inf
 have ib := hb.inf
 refine c0l a b V _ ⟨fun h => ?_, fun h => ⟨fun h' => ?_, fun h' => ?_⟩⟩
 · have h : e.inf ≠ 0 := by rw [← ia]; simpa using h
   refine (d0d a.inf b.inf).mono fun v V1 _ hv => ⟨_, hv, ?_⟩
   unfold Eb.cmp; rw [if_pos (.inl h), ia, ib]
 · have h' : f.inf ≠ 0 := by rw [← ib]; simpa using h'
   refine (d0d a.inf b.inf).mono fun v V1 _ hv => ⟨_, hv, ?_⟩
   unfold Eb.cmp; rw [if_pos (.inr h'), ia, ib]
 · have h : e.inf = 0 := by rw [← ia]; simpa using h
   have h' : f.inf = 0 := by rw [← ib]; simpa using h'
   refine (W08 ha.num hb.num hz hw).mono fun v V1 _ hv => ⟨_, hv, ?_⟩
   unfold Eb.cmp; rw [if_neg (by rw [h, h']; simp)]
   exact congrArg _ (U0n e.x f.x)
theorem G0a : (Eb.fin 0).num.sz ≤ 1 := H04
theorem K02 {V : View} {a : BdV} {e : Eb} (ha : BdAt V a e) (hz : e.num.sz ≤ 2 ^ 40) : a00 prog A08 #[a.val] V fun v _ => v = .int .i64 e.sign :=
 K0i a V _ ((C03 ha (BdAt.zero V) hz (Nat.le_trans G0a (by decide))).mono fun v V1 _ hv => ⟨_, hv, rfl⟩)
theorem H05 {V : View} {a : BdV} {e : Eb} (ha : BdAt V a e) : a00 prog I0m #[a.val] V fun v V' => ∃ b : BdV, v = b.val ∧ BdAt V' b e.neg := by
 refine d0l a V _ ((a0d ha.num).mono fun v V1 _ ⟨r, hv, hr⟩ => ⟨r, hv, _, rfl, ?_⟩)
 have ia := ha.inf
 have hr' := ha.range
 have e1 : i64.wrap (0 - a.inf) = -e.inf := by rw [i64w (by omega) (by omega)]; omega
 refine ⟨e1, ?_, Eb.neg_ok ha.ok⟩
 have : -e.num = e.neg.num := E0h e.x
 rw [← this]; exact hr
theorem i0a {V : View} {a b : BdV} {e f : Eb} (ha : BdAt V a e) (hb : BdAt V b f) (hz : e.num.sz ≤ 2 ^ 40) (hw : f.num.sz ≤ 2 ^ 40) :
 a00 prog P0m #[a.val, b.val] V fun v V' => ∃ c : BdV, v = c.val ∧ BdAt V' c (e.add f) := by
 have ia := ha.inf
 have ib := hb.inf
 refine e0l a b V _ ⟨fun h => ?_, fun h => ⟨fun h' => ?_, fun h' => ?_⟩⟩
 · have h : e.inf ≠ 0 := by rw [← ia]; simpa using h
   refine ⟨a, rfl, ?_⟩
   unfold Eb.add; rw [if_pos h]; exact ha
 · have h : e.inf = 0 := by rw [← ia]; simpa using h
   have h' : f.inf ≠ 0 := by rw [← ib]; simpa using h'
   refine ⟨b, rfl, ?_⟩
   unfold Eb.add; rw [if_neg (by rw [h]; simp), if_pos h']; exact hb
 · have h : e.inf = 0 := by rw [← ia]; simpa using h
   have h' : f.inf = 0 := by rw [← ib]; simpa using h'
   refine (c07 ha.num hb.num hz hw).mono fun v V1 _ ⟨r, hv, hr⟩ => ⟨r, hv, _, rfl, ?_⟩
   unfold Eb.add; rw [if_neg (by rw [h]; simp), if_neg (by rw [h']; simp)]
   refine ⟨rfl, ?_, .inl rfl⟩
   have : e.num + f.num = (⟨0, e.x + f.x⟩ : Eb).num := C0c e.x f.x
   rw [← this]; exact hr
theorem D03 {V : View} {a b : BdV} {e f : Eb} (ha : BdAt V a e) (hb : BdAt V b f) (hz : e.num.sz ≤ 2 ^ 40) (hw : f.num.sz ≤ 2 ^ 40) :
 a00 prog O0m #[a.val, b.val] V fun v V' => ∃ c : BdV, v = c.val ∧ BdAt V' c (e.mul f) := by
 have ia := ha.inf
 have ib := hb.inf
 have key : ¬ (e.inf = 0 ∧ f.inf = 0) → ∀ {W : View}, V.le W → a00 prog A08 #[a.val] W fun v V2 => ∃ r2 : Int, v = .int .i64 r2 ∧ a00 prog A08 #[b.val] V2 fun v V3 => ∃ r3 : Int, v = .int .i64 r3 ∧
  ∃ c : BdV, (BdV.mk (i64.wrap (r2 * r3)) (NumV.mk (WhV.mk false (Sl.mk none 0 0)) (WhV.mk false (Sl.mk none 0 0)) (Sl.mk none 0 0))).val = c.val ∧ BdAt V3 c (e.mul f) := by
  intro hn W hle
  refine (K02 (ha.le hle) hz).mono fun v V2 l2 hv => ⟨_, hv, (K02 (hb.le (View.le_trans hle l2)) hw).mono fun v V3 _ hv => ⟨_, hv, _, rfl, ?_⟩⟩
  have r1 : e.sign = -1 ∨ e.sign = 0 ∨ e.sign = 1 := Eb.cmp_range _ _
  have r2 : f.sign = -1 ∨ f.sign = 0 ∨ f.sign = 1 := Eb.cmp_range _ _
  have hm := Eb.mul_ok e f
  unfold Eb.mul at hm ⊢
  rw [if_neg hn] at hm ⊢
  have : i64.wrap (e.sign * f.sign) = e.sign * f.sign := by
   rcases r1 with r1 | r1 | r1 <;> rcases r2 with r2 | r2 | r2 <;> rw [r1, r2] <;> decide
  rw [this]; exact .signs V3 hm
 refine f0l a b V _ ⟨fun h => ⟨fun h' => ?_, fun h' => ?_⟩, fun h => ?_⟩
 · have h : e.inf = 0 := by rw [← ia]; simpa using h
   have h' : f.inf = 0 := by rw [← ib]; simpa using h'
   refine (Y02 ha.num hb.num hz hw).mono fun v V1 _ ⟨r, hv, hr⟩ => ⟨r, hv, _, rfl, ?_⟩
   unfold Eb.mul; rw [if_pos ⟨h, h'⟩]
   refine ⟨rfl, ?_, .inl rfl⟩
   have : e.num * f.num = (⟨0, e.x * f.x⟩ : Eb).num := J09 e.x f.x
   rw [← this]; exact hr
 · have h' : f.inf ≠ 0 := by rw [← ib]; simpa using h'
   exact key (fun g => h' g.2) (View.le_refl V)
 · have h : e.inf ≠ 0 := by rw [← ia]; simpa using h
   exact key (fun g => h g.1) (View.le_refl V)
theorem m05 (e : Eb) : e.neg.num.sz = e.num.sz := by
 have : -e.num = e.neg.num := E0h e.x
 rw [← this]; exact i09 _
theorem z06 (e f : Eb) : (e.add f).num.sz ≤ e.num.sz + f.num.sz + 1 := by
 unfold Eb.add; split
 · omega
 · split
   · omega
   · have : e.num + f.num = (⟨0, e.x + f.x⟩ : Eb).num := C0c e.x f.x
     rw [← this]; exact q04 _ _
theorem F04 (e f : Eb) : (e.mul f).num.sz ≤ e.num.sz + f.num.sz + 1 := by
 unfold Eb.mul; split
 · have : e.num * f.num = (⟨0, e.x * f.x⟩ : Eb).num := J09 e.x f.x
   rw [← this]; exact T01 _ _
 · exact Nat.le_trans H04 (by omega)
def bdC (V : View) (x : List Value) (e : Eb) : Prop := ∃ b : BdV, x = b.val.cells.toList ∧ BdAt V b e
theorem bdC.le {V V' : View} (hle : V.le V') (x : List Value) (e : Eb) (h : bdC V x e) : bdC V' x e := by
 obtain ⟨b, e1, hb⟩ := h; exact ⟨b, e1, hb.le hle⟩
def p0g (V : View) (s : Sl) (es : List Eb) : Prop := a02 6 bdC V s es
theorem p0g.le {V V' : View} (hle : V.le V') {s : Sl} {es : List Eb} (h : p0g V s es) : p0g V' s es := a02.le (bdC.le hle) hle h
theorem b0r {V : View} {a b : BdV} {e f : Eb} {p : Option Addr} {way : Int} (ha : BdAt V a e) (hb : BdAt V b f) (hz : e.num.sz ≤ 2 ^ 40) (hw : f.num.sz ≤ 2 ^ 40) (hp : V.load p = some (.int .i64 way)) :
 a00 prog t0k #[a.val, b.val, .pointer p] V fun v _ => v = .bool (decide (e.cmp f = way)) :=
 L0i a b p V _ ⟨way, hp, (C03 ha hb hz hw).mono fun v V1 _ hv => ⟨_, hv, by
  congr 1⟩⟩
theorem A03 (way : Int) : ∀ {es : List Eb} {i : Nat} (h : i + 1 < es.length), Eb.pick way (es.take (i + 2)) = if Eb.cmp es[i + 1] (Eb.pick way (es.take (i + 1))) = way then es[i + 1] else Eb.pick way (es.take (i + 1))
 | [], _, h => by simp at h
 | e :: es, i, h => by
   have hi : i < es.length := by simpa using h
   have e1 : (e :: es).take (i + 2) = e :: es.take (i + 1) := rfl
   have e2 : (e :: es).take (i + 1) = e :: es.take i := rfl
   have e3 : es.take (i + 1) = es.take i ++ [es[i]] := by rw [List.take_add_one]; simp [hi]
   have e4 : (e :: es)[i + 1] = es[i] := rfl
   rw [e1, e2, e3, e4]
   show List.foldl _ e (es.take i ++ [es[i]]) = _
   rw [List.foldl_append]; rfl
theorem x0u (a : Option Addr) (k : Nat) : Option.map (fun q => Addr.add q (Int.toNat (k : Int) * 6)) (Option.map (fun q => Addr.add q (Int.toNat 1 * 6)) a) = Option.map (fun q => Addr.add q ((k + 1) * 6)) a := by
 rw [Option.map_map]
 congr 1
 funext q
 show (q.add (Int.toNat 1 * 6)).add (Int.toNat (k : Int) * 6) = _
 rw [o0l, Int.toNat_natCast]
 congr 1
 show 1 * 6 + k * 6 = (k + 1) * 6
 omega
theorem T0l {V : View} {s : Sl} {es : List Eb} {way : Int} (h : p0g V s es) (h0 : es ≠ []) (hn : es.length ≤ 2 ^ 32) (hS : ∀ e ∈ es, e.num.sz ≤ 2 ^ 40) :
 a00 prog X0p #[.int .i64 way, s.v] V fun v V' => ∃ b : BdV, v = b.val ∧ BdAt V' b (Eb.pick way es) := by
 have hl := h.len
 have hcap := h.cap
 have h1 : 1 ≤ es.length := by
  rcases Nat.eq_zero_or_pos es.length with c | c
  · exact absurd (List.eq_nil_of_length_eq_zero c) h0
  · exact c
 refine E0n way s V _ (fun _ x V' => ∃ i : Nat, x.t16 = i ∧ i + 1 ≤ es.length ∧ BdAt V' x.o6 (Eb.pick way (es.take (i + 1))) ∧ (Eb.pick way (es.take (i + 1))).num.sz ≤ 2 ^ 40) (fun _ x _ => (es.length - x.t16).toNat) ?_
 intro b1 V1 l1 hb1
 obtain ⟨hb, x, ⟨b0, hx, hb0⟩, _, hh, hs⟩ := a02.get (h.le l1) (t := 0) (by omega) (z := es[0]) (by simp)
 refine ⟨hb, b0, hx ▸ hh, hs, ⟨by omega, by omega, by omega⟩, ⟨0, rfl, h1, ?_, ?_⟩, ?_⟩
 · have : es.take (0 + 1) = [es[0]] := by
     cases es with
     | nil => simp at h1
     | cons e es => simp
   rw [this]; exact hb0
 · have : es.take (0 + 1) = [es[0]] := by
     cases es with
     | nil => simp at h1
     | cons e es => simp
   rw [this]; exact hS _ (List.getElem_mem _)
 rintro ⟨t, o4, o6⟩ V2 l2 ⟨i, rfl, hi, ho, hz⟩
 dsimp only at ho hz ⊢
 have hlen : ((((((s.len : Nat) : Int)).toNat - Int.toNat 1 : Nat) : Int)) = (es.length : Int) - 1 := by rw [Int.toNat_natCast, hl]; show ((es.length - 1 : Nat) : Int) = _; omega
 rw [hlen]
 refine ⟨fun hlt => ?_, fun hge => ?_⟩
 · simp only [decide_eq_true_eq] at hlt
   have hi2 : i + 1 < es.length := by omega
   have hc1 : ¬ s.cap = Int.toNat 1 := by show ¬ s.cap = 1; omega
   rw [if_neg hc1, x0u]
   obtain ⟨hb', x', ⟨b', hx', hb''⟩, _, hh', hs'⟩ := a02.get (h.le (View.le_trans l1 l2)) (t := ((i + 1 : Nat) : Int)) (by omega) (z := es[i + 1]) (by rw [Int.toNat_natCast]; simp [hi2])
   rw [Int.toNat_natCast] at hh' hs'
   have hsm : (Option.map (fun q => Addr.add q (Int.toNat 1 * 6)) s.a).isSome = true := by
    have := hb'.2.2
    rw [Option.isSome_map]; exact this
   refine ⟨⟨by omega, by omega, hsm⟩, b', hx' ▸ hh', hs', ?_⟩
   have hp : V2.load (some (Addr.mk b1 0 none)) = some (.int .i64 way) := k02 l2 (by simp [View.load, hb1])
   refine (b0r hb'' ho (hS _ (List.getElem_mem _)) hz hp).mono fun v V3 l3 hv => ⟨_, hv, fun hc => ?_, fun hc => ?_⟩
   · simp only [decide_eq_true_eq] at hc
     rw [i64w (by omega) (by omega)]
     refine ⟨⟨i + 1, by omega, by omega, ?_, ?_⟩, by omega⟩
     · rw [A03 way hi2, if_pos hc]; exact hb''.le l3
     · rw [A03 way hi2, if_pos hc]; exact hS _ (List.getElem_mem _)
   · simp only [decide_eq_false_iff_not] at hc
     rw [i64w (by omega) (by omega)]
     refine ⟨⟨i + 1, by omega, by omega, ?_, ?_⟩, by omega⟩
     · rw [A03 way hi2, if_neg hc]; exact ho.le l3
     · rw [A03 way hi2, if_neg hc]; exact hz
 · simp only [decide_eq_false_iff_not] at hge
   have : i + 1 = es.length := by omega
   rw [this, List.take_length] at ho
   exact ⟨_, rfl, ho⟩
theorem A0c {V : View} {s : Sl} {es : List Eb} (h : p0g V s es) (h0 : es ≠ []) (hn : es.length ≤ 2 ^ 32) (hS : ∀ e ∈ es, e.num.sz ≤ 2 ^ 40) :
 a00 prog C0m #[s.v] V fun v V' => ∃ b : BdV, v = b.val ∧ BdAt V' b (Eb.pick (-1) es) :=
 g0l s V _ ((T0l h h0 hn hS).mono fun _ _ _ ⟨b, hv, hb⟩ => ⟨b, hv, b, rfl, hb⟩)
theorem x06 {V : View} {s : Sl} {es : List Eb} (h : p0g V s es) (h0 : es ≠ []) (hn : es.length ≤ 2 ^ 32) (hS : ∀ e ∈ es, e.num.sz ≤ 2 ^ 40) :
 a00 prog C0f #[s.v] V fun v V' => ∃ b : BdV, v = b.val ∧ BdAt V' b (Eb.pick 1 es) :=
 I0e s V _ ((T0l h h0 hn hS).mono fun _ _ _ ⟨b, hv, hb⟩ => ⟨b, hv, b, rfl, hb⟩)
structure EsAt (V : View) (s : SetV) (e : Es) : Prop where
 lo : BdAt V s.lo e.lo
 hi : BdAt V s.hi e.hi
theorem EsAt.le {V V' : View} {s : SetV} {e : Es} (hle : V.le V') (h : EsAt V s e) : EsAt V' s e := ⟨h.lo.le hle, h.hi.le hle⟩
def U00 (e : Es) (S : Nat) : Prop := e.lo.num.sz ≤ S ∧ e.hi.num.sz ≤ S
theorem b09 {V : View} {s : SetV} {e : Es} (h : EsAt V s e) : a00 prog J0r #[s.val] V fun v V' => ∃ r : SetV, v = r.val ∧ EsAt V' r e.neg :=
 J0q s V _ ((H05 h.hi).mono fun _ _ l1 ⟨a, hv, ha⟩ => ⟨a, hv, (H05 (h.lo.le l1)).mono fun _ _ l2 ⟨b, hv, hb⟩ => ⟨b, hv, _, rfl, ha.le l2, hb⟩⟩)
theorem d07 {V : View} {s t : SetV} {e f : Es} (h : EsAt V s e) (k : EsAt V t f) {S : Nat} (he : U00 e S) (hf : U00 f S) (hS : S ≤ 2 ^ 30) :
 a00 prog M0r #[s.val, t.val] V fun v V' => ∃ r : SetV, v = r.val ∧ EsAt V' r (e.add f) :=
 K0q s t V _ ((i0a h.lo k.lo (by have := he.1; omega) (by have := hf.1; omega)).mono fun v V1 l1 ⟨a, hv, ha⟩ => ⟨a, hv,
  (i0a (h.hi.le l1) (k.hi.le l1) (by have := he.2; omega) (by have := hf.2; omega)).mono fun v V2 l2 ⟨b, hv, hb⟩ => ⟨b, hv, _, rfl, ha.le l2, hb⟩⟩)
theorem Y0o {V : View} {b : Nat} {r1 r2 r3 r4 : BdV} {e1 e2 e3 e4 : Eb} (h1 : BdAt V r1 e1) (h2 : BdAt V r2 e2) (h3 : BdAt V r3 e3) (h4 : BdAt V r4 e4)
 (hb : V b = some #[.int .i64 r1.inf, .bool r1.x.re.neg, r1.x.re.mag.v, .bool r1.x.im.neg, r1.x.im.mag.v, r1.x.under.v, .int .i64 r2.inf, .bool r2.x.re.neg, r2.x.re.mag.v, .bool r2.x.im.neg, r2.x.im.mag.v, r2.x.under.v, .int .i64 r3.inf, .bool r3.x.re.neg, r3.x.re.mag.v, .bool r3.x.im.neg, r3.x.im.mag.v, r3.x.under.v, .int .i64 r4.inf, .bool r4.x.re.neg, r4.x.re.mag.v, .bool r4.x.im.neg, r4.x.im.mag.v, r4.x.under.v]) :
 p0g V ⟨some ⟨b, 0, none⟩, 4, 4⟩ [e1, e2, e3, e4] :=
 J05 (o := r1.val.cells.toList ++ (r2.val.cells.toList ++ (r3.val.cells.toList ++ (r4.val.cells.toList ++ [])))) hb
  ⟨_, _, rfl, rfl, ⟨r1, rfl, h1⟩, _, _, rfl, rfl, ⟨r2, rfl, h2⟩, _, _, rfl, rfl, ⟨r3, rfl, h3⟩, _, _, rfl, rfl, ⟨r4, rfl, h4⟩, rfl⟩ rfl
theorem M0d {e f : Es} {S : Nat} (he : U00 e S) (hf : U00 f S) : ∀ x ∈ Es.prods e f, x.num.sz ≤ 2 * S + 1 := by
 intro x hx
 simp only [Es.prods, List.mem_cons, List.not_mem_nil, or_false] at hx
 have a := he.1; have b := he.2; have c := hf.1; have d := hf.2
 rcases hx with rfl | rfl | rfl | rfl
 · have := F04 e.lo f.lo; omega
 · have := F04 e.lo f.hi; omega
 · have := F04 e.hi f.lo; omega
 · have := F04 e.hi f.hi; omega
theorem e08 {way : Int} {es : List Eb} {S : Nat} (h0 : es ≠ []) (h : ∀ e ∈ es, e.num.sz ≤ S) : (Eb.pick way es).num.sz ≤ S := by
 cases es with
 | nil => exact absurd rfl h0
 | cons e es =>
   show (List.foldl (fun o x => if x.cmp o = way then x else o) e es).num.sz ≤ S
   rcases Eb.pick_mem way es e with g | g
   · rw [g]; exact h e (by simp)
   · exact h _ (by simp [g])
theorem G04 {V : View} {s t : SetV} {e f : Es} (h : EsAt V s e) (k : EsAt V t f) {S : Nat} (he : U00 e S) (hf : U00 f S) (hS : S ≤ 2 ^ 30) :
 a00 prog L0r #[s.val, t.val] V fun v V' => ∃ r : SetV, v = r.val ∧ EsAt V' r (e.mul f) := by
 have a := he.1; have b := he.2; have c := hf.1; have d := hf.2
 have hp := M0d he hf
 have hp40 : ∀ x ∈ Es.prods e f, x.num.sz ≤ 2 ^ 40 := fun x hx => by have := hp x hx; omega
 refine L0q s t V _ ((D03 h.lo k.lo (by omega) (by omega)).mono fun v V1 l1 ⟨r1, hv, h1⟩ => ⟨r1, hv, ?_⟩)
 refine (D03 (h.lo.le l1) (k.hi.le l1) (by omega) (by omega)).mono fun v V2 l2 ⟨r2, hv, h2⟩ => ⟨r2, hv, ?_⟩
 have L2 := View.le_trans l1 l2
 refine (D03 (h.hi.le L2) (k.lo.le L2) (by omega) (by omega)).mono fun v V3 l3 ⟨r3, hv, h3⟩ => ⟨r3, hv, ?_⟩
 have L3 := View.le_trans L2 l3
 refine (D03 (h.hi.le L3) (k.hi.le L3) (by omega) (by omega)).mono fun v V4 l4 ⟨r4, hv, h4⟩ => ⟨r4, hv, fun b1 V5 l5 _ hb1 => ?_⟩
 have g1 := h1.le (View.le_trans l2 (View.le_trans l3 l4))
 have g2 := h2.le (View.le_trans l3 l4)
 have g3 := h3.le l4
 refine (A0c (Y0o (g1.le l5) (g2.le l5) (g3.le l5) (h4.le l5) hb1) (by simp) (by simp) hp40).mono fun v V6 l6 ⟨r5, hv, h5⟩ => ⟨r5, hv, fun b2 V7 l7 _ hb2 => ?_⟩
 have L7 := View.le_trans l5 (View.le_trans l6 l7)
 exact (x06 (Y0o (g1.le L7) (g2.le L7) (g3.le L7) (h4.le L7) hb2) (by simp) (by simp) hp40).mono fun v V8 l8 ⟨r6, hv, h6⟩ => ⟨r6, hv, _, rfl, h5.le (View.le_trans l7 l8), h6⟩
theorem f08 {V : View} {s : SetV} {e : Es} (h : EsAt V s e) {S : Nat} (he : U00 e S) (hS : S ≤ 2 ^ 30) : a00 prog T0p #[s.val] V fun v _ => v = .bool e.zero := by
 have a := he.1; have b := he.2
 refine F0n s V _ ((K02 h.lo (by omega)).mono fun v V1 l1 hv => ⟨_, hv, fun hc => ?_, fun hc => ?_⟩)
 · refine (K02 (h.hi.le l1) (by omega)).mono fun v V2 _ hv => ⟨_, hv, ?_⟩
   unfold Es.zero; rw [hc]; rfl
 · unfold Es.zero; rw [hc]; rfl
theorem N0d : 18442240474082181120 = Y00 (-(infR : Int)) := by decide
theorem Z0o : infR = Y00 (infR : Int) := by decide
theorem x02 {V : View} {s : SetV} {e : Es} (h : EsAt V s e) {S : Nat} (he : U00 e S) (hS : S ≤ 2 ^ 30) : a00 prog L0p #[s.val] V fun v _ => v = (Sk.v e.span).val := by
 have a := he.1; have b := he.2
 have il := h.lo.inf
 have ih := h.hi.inf
 refine G0n s V _ (Q0o.mono fun v V1 l1 hv => ⟨_, hv, g0a.mono fun v V2 l2 hv => ⟨_, hv, fun h1 => ?_, fun h1 => ?_⟩⟩)
 · have h1 : e.lo.inf = 0 := by rw [← il]; simpa using h1
   refine (a0r (h.lo.num.le (View.le_trans l1 l2)) (by omega)).mono fun v V3 l3 hv => ⟨_, hv, fun h2 => ?_, fun h2 => ?_⟩
   · have h2 : e.hi.inf = 0 := by rw [← ih]; simpa using h2
     refine (u0h (h.hi.num.le (View.le_trans l1 (View.le_trans l2 l3))) (by omega)).mono fun v V4 l4 hv => ⟨_, hv, ?_⟩
     unfold Es.span Sk.v; rw [if_pos h1, if_pos h2]; rfl
   · have h2 : e.hi.inf ≠ 0 := by rw [← ih]; simpa using h2
     unfold Es.span Sk.v; rw [if_pos h1, if_neg h2, ← Z0o]; rfl
 · have h1 : e.lo.inf ≠ 0 := by rw [← il]; simpa using h1
   refine ⟨fun h2 => ?_, fun h2 => ?_⟩
   · have h2 : e.hi.inf = 0 := by rw [← ih]; simpa using h2
     refine (u0h (h.hi.num.le (View.le_trans l1 l2)) (by omega)).mono fun v V4 l4 hv => ⟨_, hv, ?_⟩
     unfold Es.span Sk.v; rw [if_neg h1, if_pos h2, ← N0d]; rfl
   · have h2 : e.hi.inf ≠ 0 := by rw [← ih]; simpa using h2
     unfold Es.span Sk.v; rw [if_neg h1, if_neg h2, ← Z0o, ← N0d]

theorem c0o {z : Cq} {A B : Int} {D : Nat} (h : Rep z A B D) : Rep ⟨z.re, 0⟩ A 0 D := ⟨h.pos, h.re, by simp [Rat.div_def]⟩
theorem D0t {z : Cq} {A B : Int} {D : Nat} (h : Rep z A B D) : Rep ⟨z.im, 0⟩ B 0 D := ⟨h.pos, h.im, by simp [Rat.div_def]⟩
theorem N0w (z : Cq) : (⟨z.re, 0⟩ : Cq).sz ≤ z.sz + 1 :=
 (c0o z.canon.rep).sz (by have := z.szA; omega) (by rw [Int.natAbs_zero, f06]; omega) (by have := z.szD; omega)
theorem O0w (z : Cq) : (⟨z.im, 0⟩ : Cq).sz ≤ z.sz + 1 :=
 (D0t z.canon.rep).sz (by have := z.szB; omega) (by rw [Int.natAbs_zero, f06]; omega) (by have := z.szD; omega)
theorem W0n {V : View} {x : NumV} {z : Cq} (h : L01 V x z) (hz : z.sz ≤ 2 ^ 40) : a00 prog P0t #[x.val] V fun v V' => ∃ r : NumV, v = r.val ∧ L01 V' r ⟨z.re, 0⟩ := by
 have zA := Cq.wA hz; have zB := Cq.wB hz; have zD := Cq.wD hz
 refine f0s x V _ ((d01 h).mono fun v V1 l1 ⟨d, hv, hd⟩ => ⟨d, hv, ?_⟩)
 exact (q03 (h.re.le l1) (H00.zero V1) hd (c0o z.canon.rep) (by omega) (by rw [Int.natAbs_zero, F03]; omega) (by omega)).mono fun v V2 _ ⟨r, hv, hr⟩ => ⟨r, hv, r, rfl, hr⟩
theorem X0n {V : View} {x : NumV} {z : Cq} (h : L01 V x z) (hz : z.sz ≤ 2 ^ 40) : a00 prog Q0t #[x.val] V fun v V' => ∃ r : NumV, v = r.val ∧ L01 V' r ⟨z.im, 0⟩ := by
 have zA := Cq.wA hz; have zB := Cq.wB hz; have zD := Cq.wD hz
 refine g0s x V _ ((d01 h).mono fun v V1 l1 ⟨d, hv, hd⟩ => ⟨d, hv, ?_⟩)
 exact (q03 (h.im.le l1) (H00.zero V1) hd (D0t z.canon.rep) (by omega) (by rw [Int.natAbs_zero, F03]; omega) (by omega)).mono fun v V2 _ ⟨r, hv, hr⟩ => ⟨r, hv, r, rfl, hr⟩
theorem A_zero {z : Cq} : z.A = 0 ↔ z.re = 0 := by
 have h := z.canon.rep
 have hD := W00 h.pos
 rw [h.re]
 constructor
 · intro e; rw [e]; simp [Rat.div_def]
 · intro e
   have : (z.A : Rat) = 0 := by
    have : (z.A : Rat) = (z.A : Rat) / (z.D : Rat) * (z.D : Rat) := by rw [Rat.div_mul_cancel hD]
    rw [this, e]; simp
   exact_mod_cast this
theorem B_zero {z : Cq} : z.B = 0 ↔ z.im = 0 := by
 have h := z.canon.rep
 have hD := W00 h.pos
 rw [h.im]
 constructor
 · intro e; rw [e]; simp [Rat.div_def]
 · intro e
   have : (z.B : Rat) = 0 := by
    have : (z.B : Rat) = (z.B : Rat) / (z.D : Rat) * (z.D : Rat) := by rw [Rat.div_mul_cancel hD]
    rw [this, e]; simp
   exact_mod_cast this
theorem q0g {V : View} {x : NumV} {z : Cq} (h : L01 V x z) (hz : z.sz ≤ 2 ^ 40) : a00 prog L0m #[x.val] V fun v _ => v = .bool (decide (z ≠ Cq.zero)) := by
 have zA := Cq.wA hz; have zB := Cq.wB hz
 refine W0k x V _ ?_
 have a1 := h.re.2.len; have a2 := h.im.2.len
 have b1 := h.re.2.len_zero; have b2 := h.im.2.len_zero
 have c1 : x.re.mag.len ≤ 2 ^ 50 := by
  have : x.re.mag.len = wn z.A.natAbs := by rw [wn]; exact a1.symm ▸ rfl
  omega
 have c2 : x.im.mag.len ≤ 2 ^ 50 := by
  have : x.im.mag.len = wn z.B.natAbs := by rw [wn]; exact a2.symm ▸ rfl
  omega
 rw [i64w (by omega) (by omega)]
 have d1 : x.re.mag.len = 0 ↔ z.re = 0 := by rw [b1, ← A_zero]; omega
 have d2 : x.im.mag.len = 0 ↔ z.im = 0 := by rw [b2, ← B_zero]; omega
 have e : (z ≠ Cq.zero) ↔ ((x.re.mag.len : Int) + (x.im.mag.len : Int) > 0) := by
  constructor
  · intro hne
    rcases Nat.eq_zero_or_pos x.re.mag.len with p | p
    · rcases Nat.eq_zero_or_pos x.im.mag.len with q | q
      · exact absurd (Cq.ext' (d1.1 p) (d2.1 q)) hne
      · omega
    · omega
  · rintro hp rfl
    have p := d1.2 rfl; have q := d2.2 rfl
    omega
 simp only [e]
theorem Rep.div {z w : Cq} {A B a b : Int} {D d n : Nat} (hw : Rep w A B D) (ht : Rep (z * ⟨(A : Rat), -(B : Rat)⟩) a b d) (hn : (n : Int) = A * A + B * B) (h0 : n ≠ 0) : Rep (z.div w) (a * D) (b * D) (d * n) := by
 have hD := W00 hw.pos
 have hd := W00 ht.pos
 have hn0 := W00 h0
 have hN : (n : Rat) = (A : Rat) * A + B * B := by exact_mod_cast hn
 have t1 := ht.re; have t2 := ht.im
 rw [O06] at t1; rw [P06] at t2
 dsimp only at t1 t2
 refine ⟨Nat.mul_ne_zero ht.pos h0, ?_, ?_⟩
 · show (z.re * w.re + z.im * w.im) / (w.re * w.re + w.im * w.im) = _
   rw [hw.re, hw.im, Rat.intCast_mul, Rat.natCast_mul, Rat.intCast_natCast]
   have e1 : z.re * ((A : Rat) / (D : Rat)) + z.im * ((B : Rat) / (D : Rat)) = (a : Rat) / (d : Rat) / (D : Rat) := by rw [← t1]; grind
   have e2 : (A : Rat) / (D : Rat) * ((A : Rat) / (D : Rat)) + (B : Rat) / (D : Rat) * ((B : Rat) / (D : Rat)) = (n : Rat) / ((D : Rat) * (D : Rat)) := by rw [hN]; grind
   rw [e1, e2]; grind
 · show (z.im * w.re - z.re * w.im) / (w.re * w.re + w.im * w.im) = _
   rw [hw.re, hw.im, Rat.intCast_mul, Rat.natCast_mul, Rat.intCast_natCast]
   have e1 : z.im * ((A : Rat) / (D : Rat)) - z.re * ((B : Rat) / (D : Rat)) = (b : Rat) / (d : Rat) / (D : Rat) := by rw [← t2]; grind
   have e2 : (A : Rat) / (D : Rat) * ((A : Rat) / (D : Rat)) + (B : Rat) / (D : Rat) * ((B : Rat) / (D : Rat)) = (n : Rat) / ((D : Rat) * (D : Rat)) := by rw [hN]; grind
   rw [e1, e2]; grind
theorem D0c (A B : Int) : Rep ⟨(A : Rat), -(B : Rat)⟩ A (-B) 1 := by
 refine ⟨by omega, ?_, ?_⟩
 · rw [Rat.div_def]; simp; grind
 · rw [Rat.div_def]; simp; grind
theorem e0d {V : View} {x y : NumV} {z w : Cq} (hx : L01 V x z) (hy : L01 V y w) (hz : z.sz ≤ 2 ^ 36) (hw : w.sz ≤ 2 ^ 36) :
 a00 prog G0r #[x.val, y.val] V fun v V' => ∃ (r : NumV) (e : Int), v = .tuple #[r.val, .int .i64 e] ∧ (w = Cq.zero → e = 3 ∧ L01 V' r Cq.zero) ∧ (w ≠ Cq.zero → e = 0 ∧ L01 V' r (z.div w)) := by
 have hw40 : w.sz ≤ 2 ^ 40 := by omega
 have wA := Cq.wA hw40; have wB := Cq.wB hw40; have wD := Cq.wD hw40
 have sA := w.szA; have sB := w.szB; have sD := w.szD
 refine C0q x y V _ ((q0g hy hw40).mono fun v V1 l1 hv => ⟨_, hv, fun hc => ?_, fun hc => ?_⟩)
 · have hc : w = Cq.zero := by simpa using hc
   exact ⟨_, _, rfl, fun _ => ⟨rfl, L01.zero V1⟩, fun h => absurd hc h⟩
 have hc : w ≠ Cq.zero := by simpa using hc
 replace hx := hx.le l1; replace hy := hy.le l1
 have m1 := j02 wA wA; have m2 := j02 wB wB
 refine (S02 hy.re hy.re (by omega) (by omega)).mono fun v V2 l2 ⟨r2, hv, h2⟩ => ⟨r2, hv, ?_⟩
 replace hx := hx.le l2; replace hy := hy.le l2
 refine (S02 hy.im hy.im (by omega) (by omega)).mono fun v V3 l3 ⟨r3, hv, h3⟩ => ⟨r3, hv, ?_⟩
 replace hx := hx.le l3; replace hy := hy.le l3; replace h2 := h2.le l3
 refine (k03 h2 h3 (by omega) (by omega)).mono fun v V4 l4 ⟨r4, hv, h4⟩ => ⟨r4, hv, ?_⟩
 replace hx := hx.le l4; replace hy := hy.le l4
 refine (y03 hy.im).mono fun v V5 l5 ⟨r5, hv, h5⟩ => ⟨r5, hv, fun b1 V6 l6 _ hb1 => ?_⟩
 replace hx := hx.le (View.le_trans l5 l6); replace hy := hy.le (View.le_trans l5 l6); replace h4 := h4.le (View.le_trans l5 l6); replace h5 := h5.le l6
 refine (q03 hy.re h5 (s0h hb1) (D0c w.A w.B) (by omega) (by rw [Int.natAbs_neg]; omega) b0d).mono fun v V7 l7 ⟨r6, hv, h6⟩ => ⟨r6, hv, ?_⟩
 replace hx := hx.le l7; replace hy := hy.le l7; replace h4 := h4.le l7
 have cs : (⟨(w.A : Rat), -(w.B : Rat)⟩ : Cq).sz ≤ 2 ^ 36 + 1 := (D0c w.A w.B).sz (by omega) (by rw [Int.natAbs_neg]; omega) (by rw [x0o]; omega)
 refine (Y02 hx h6 (by omega) (by omega)).mono fun v V8 l8 ⟨r7, hv, h7⟩ => ⟨r7, hv, ?_⟩
 replace hy := hy.le l8; replace h4 := h4.le l8
 have ts := T01 z ⟨(w.A : Rat), -(w.B : Rat)⟩
 have ts40 : (z * ⟨(w.A : Rat), -(w.B : Rat)⟩).sz ≤ 2 ^ 40 := by omega
 have tA := Cq.wA ts40; have tB := Cq.wB ts40; have tD := Cq.wD ts40
 refine (d01 hy).mono fun v V9 l9 ⟨r8, hv, h8⟩ => ⟨r8, hv, ?_⟩
 replace hy := hy.le l9; replace h4 := h4.le l9; replace h7 := h7.le l9
 refine (X00 h7.re h8 (by omega) (by omega)).mono fun v V10 l10 ⟨r9, hv, h9⟩ => ⟨r9, hv, ?_⟩
 replace hy := hy.le l10; replace h4 := h4.le l10; replace h7 := h7.le l10
 refine (d01 hy).mono fun v V11 l11 ⟨r10, hv, h10⟩ => ⟨r10, hv, ?_⟩
 replace h4 := h4.le l11; replace h7 := h7.le l11; replace h9 := h9.le l11
 refine (X00 h7.im h10 (by omega) (by omega)).mono fun v V12 l12 ⟨r11, hv, h11⟩ => ⟨r11, hv, ?_⟩
 replace h4 := h4.le l12; replace h7 := h7.le l12; replace h9 := h9.le l12
 refine (d01 h7).mono fun v V13 l13 ⟨r12, hv, h12⟩ => ⟨r12, hv, ?_⟩
 replace h4 := h4.le l13; replace h9 := h9.le l13; replace h11 := h11.le l13
 have n1 := c08 m1 m2
 refine (Z05 h12 h4.2 (by omega) (by omega)).mono fun v V14 l14 ⟨r13, hv, h13⟩ => ⟨r13, hv, ?_⟩
 replace h9 := h9.le l14; replace h11 := h11.le l14
 have p1 := U05 (z * ⟨(w.A : Rat), -(w.B : Rat)⟩).D (w.A * w.A + w.B * w.B).natAbs
 have q1 := j02 tA (b := (w.D : Int)) (by rw [Int.natAbs_natCast]; exact wD)
 have q2 := j02 tB (b := (w.D : Int)) (by rw [Int.natAbs_natCast]; exact wD)
 have hsq : (0 : Int) ≤ w.A * w.A + w.B * w.B := Int.add_nonneg (by rw [← Int.natAbs_mul_self]; exact Int.natCast_nonneg _) (by rw [← Int.natAbs_mul_self]; exact Int.natCast_nonneg _)
 refine (q03 h9 h11 h13 (Rep.div w.canon.rep (z * ⟨(w.A : Rat), -(w.B : Rat)⟩).canon.rep (Int.natAbs_of_nonneg hsq) ?_) (by omega) (by omega) (by omega)).mono fun v V15 _ ⟨r, hv, hr⟩ => ⟨r, hv, r, _, rfl, fun h => absurd h hc, fun _ => ⟨rfl, hr⟩⟩
 intro h0
 have e0 : w.A * w.A + w.B * w.B = 0 := Int.natAbs_eq_zero.1 h0
 have a0 : w.A = 0 := by
  by_cases h : w.A = 0
  · exact h
  · have : 0 < w.A * w.A := by
      have : 0 < w.A.natAbs * w.A.natAbs := Nat.mul_pos (by omega) (by omega)
      rw [← Int.natAbs_mul_self]; exact_mod_cast this
    have : (0 : Int) ≤ w.B * w.B := by rw [← Int.natAbs_mul_self]; exact Int.natCast_nonneg _
    omega
 have b0 : w.B = 0 := by
  rw [a0] at e0
  have : w.B * w.B = 0 := by omega
  rcases Int.mul_eq_zero.1 this with h | h <;> exact h
 exact hc (Cq.ext' (A_zero.1 a0) (B_zero.1 b0))
theorem Y0u {z w : Cq} {S : Nat} (hz : z.sz ≤ S) (hw : w.sz ≤ S) : (z.div w).sz ≤ 4 * S + 8 := by
 have sA := w.szA; have sB := w.szB; have sD := w.szD
 have cs : (⟨(w.A : Rat), -(w.B : Rat)⟩ : Cq).sz ≤ S + 1 := (D0c w.A w.B).sz (by omega) (by rw [Int.natAbs_neg]; omega) (by rw [x0o]; omega)
 have ts := T01 z ⟨(w.A : Rat), -(w.B : Rat)⟩
 have tA := (z * ⟨(w.A : Rat), -(w.B : Rat)⟩ : Cq).szA; have tB := (z * ⟨(w.A : Rat), -(w.B : Rat)⟩ : Cq).szB; have tD := (z * ⟨(w.A : Rat), -(w.B : Rat)⟩ : Cq).szD
 have hsq : (0 : Int) ≤ w.A * w.A + w.B * w.B := Int.add_nonneg (by rw [← Int.natAbs_mul_self]; exact Int.natCast_nonneg _) (by rw [← Int.natAbs_mul_self]; exact Int.natCast_nonneg _)
 by_cases h0 : (w.A * w.A + w.B * w.B).natAbs = 0
 · have : z.div w = Cq.zero := by
     have hr := w.canon.rep
     have e0 : w.A * w.A + w.B * w.B = 0 := Int.natAbs_eq_zero.1 h0
     have hn : w.norm = 0 := by
      unfold Cq.norm
      rw [hr.re, hr.im]
      have : (w.A : Rat) * w.A + w.B * w.B = 0 := by exact_mod_cast e0
      have hD := W00 hr.pos
      grind
     refine Cq.ext' ?_ ?_
     · show _ / w.norm = 0; rw [hn]; simp [Rat.div_def]
     · show _ / w.norm = 0; rw [hn]; simp [Rat.div_def]
   rw [this]; have := H04; omega
 · refine (Rep.div w.canon.rep (z * ⟨(w.A : Rat), -(w.B : Rat)⟩).canon.rep (Int.natAbs_of_nonneg hsq) h0).sz ?_ ?_ ?_
   · have := g06 (z * ⟨(w.A : Rat), -(w.B : Rat)⟩).A (w.D : Int); rw [Int.natAbs_natCast] at this; omega
   · have := g06 (z * ⟨(w.A : Rat), -(w.B : Rat)⟩).B (w.D : Int); rw [Int.natAbs_natCast] at this; omega
   · have h1 := J08 (z * ⟨(w.A : Rat), -(w.B : Rat)⟩).D (w.A * w.A + w.B * w.B).natAbs
     have h2 := K0e (a := w.A * w.A) (b := w.B * w.B) (k := 2 * S) (Nat.le_trans (g06 _ _) (by omega)) (Nat.le_trans (g06 _ _) (by omega))
     omega

theorem w0h {V : View} {x : Nat} (h : okW x) : a00 prog J0m #[.float .f64 x] V fun v _ => v = .float .f64 (Y00 (key x)) := by
 have z0 : okW 0 := ⟨by decide, by decide⟩
 have k0 : key 0 = 0 := by decide
 refine Y0k x V _ ⟨fun hc => ?_, fun hc => ?_⟩
 · rw [l08 h z0, k0] at hc
   have hc : key x = 0 := by simpa using hc
   rw [hc]; rfl
 · rw [l08 h z0, k0] at hc
   have hc : ¬ key x = 0 := by simpa using hc
   have : Y00 (key x) = x := s0l h.1 (by rintro rfl; exact hc (by decide))
   rw [this]
theorem g08 {V : View} {x y : Nat} (hx : x < 2 ^ 64) (hy : y < 2 ^ 64) : a00 prog D0f #[.float .f64 x, .float .f64 y] V fun v _ => v = .tuple #[(mkS x y).v.val, .int .i64 (mkE x y)] := by
 have bad : ∀ {e : Int}, mkE x y = e → e ≠ 0 → (Value.tuple #[(SpV.mk 0 0).val, .int .i64 e]) = .tuple #[(mkS x y).v.val, .int .i64 (mkE x y)] := by
  intro e he h0
  unfold mkS; rw [he, if_neg h0, Y0b]
 refine G0e x y V _ ((E04 hx).mono fun v V1 _ hv => ⟨_, hv, fun hc => ?_, fun hc => ?_⟩)
 · have hc : ¬ okW x := by simpa using hc
   exact bad (by unfold mkE; rw [if_pos (.inl hc)]) (by decide)
 have h1 : okW x := by simpa using hc
 refine (E04 hy).mono fun v V2 _ hv => ⟨_, hv, fun hc => ?_, fun hc => ?_⟩
 · have hc : ¬ okW y := by simpa using hc
   exact bad (by unfold mkE; rw [if_pos (.inr (.inl hc))]) (by decide)
 have h2 : okW y := by simpa using hc
 refine (L0d hx).mono fun v V3 _ hv => ⟨_, hv, fun hc => ?_, fun hc => ?_⟩
 · have hc : key x = (infR : Int) := by simp only [decide_eq_true_eq] at hc; exact hc.2
   exact bad (by unfold mkE; rw [if_pos (.inr (.inr (.inl hc)))]) (by decide)
 have h3 : ¬ key x = (infR : Int) := by simp only [decide_eq_false_iff_not] at hc; exact fun e => hc ⟨h1, e⟩
 refine (F09 hy).mono fun v V4 _ hv => ⟨_, hv, fun hc => ?_, fun hc => ?_⟩
 · have hc : key y = -(infR : Int) := by simp only [decide_eq_true_eq] at hc; exact hc.2
   exact bad (by unfold mkE; rw [if_pos (.inr (.inr (.inr hc)))]) (by decide)
 have h4 : ¬ key y = -(infR : Int) := by simp only [decide_eq_false_iff_not] at hc; exact fun e => hc ⟨h2, e⟩
 have hno : ¬ (¬ okW x ∨ ¬ okW y ∨ key x = (infR : Int) ∨ key y = -(infR : Int)) := by
  rintro (h | h | h | h)
  · exact h h1
  · exact h h2
  · exact h3 h
  · exact h4 h
 refine ⟨fun hc => ?_, fun hc => ?_⟩
 · rw [d0a h1 h2] at hc
   have hc : key y < key x := by simpa using hc
   exact bad (by unfold mkE; rw [if_neg hno, if_pos hc]) (by decide)
 · rw [d0a h1 h2] at hc
   have hc : ¬ key y < key x := by simpa using hc
   have he : mkE x y = 0 := by unfold mkE; rw [if_neg hno, if_neg hc]
   refine (w0h h1).mono fun v V5 _ hv => ⟨_, hv, (w0h h2).mono fun v V6 _ hv => ⟨_, hv, ?_⟩⟩
   unfold mkS; rw [he, if_pos rfl]; rfl
theorem n0t {V : View} (s : SpV) : a00 prog D0m #[s.val] V fun v _ => v = .tuple #[.float .f64 s.lo, .float .f64 s.hi] := Z0k s V _ rfl
theorem b03 {V : View} {s : Sk} (h : s.ok) : a00 prog K0p #[s.v.val] V fun v V' => ∃ r : SetV, v = r.val ∧ EsAt V' r s.set := by
 refine B0n s.v V _ ((X0o (okK h.lo)).mono fun v V1 _ ⟨a, hv, ha⟩ => ⟨a, hv, (X0o (okK h.hi)).mono fun v V2 l2 ⟨b, hv, hb⟩ => ⟨b, hv, _, rfl, ?_, ?_⟩⟩)
 · rw [keyK h.lo] at ha; exact ha.le l2
 · rw [keyK h.hi] at hb; exact hb
theorem z00 {s : Sk} (h : s.ok) : U00 s.set 2100 := ⟨d08 h.lo, d08 h.hi⟩
theorem a0p {V : View} {s : Sk} (h : s.ok) {x : NumV} {z : Cq} (hx : L01 V x z) (hz : z.sz ≤ 2 ^ 40) : a00 prog E0p #[s.v.val, x.val] V fun v _ => v = .bool (decide (z.im = 0) && s.has z.re) := by
 refine C0n s.v x V _ ((b03 h).mono fun v V1 l1 ⟨r, hv, hr⟩ => ⟨r, hv, (l0j (hx.le l1)).mono fun v V2 l2 hv => ⟨_, hv, fun hc => ?_, fun hc => ?_⟩⟩)
 · have hc : z.im = 0 := by simpa using hc
   have e : z = (⟨0, z.re⟩ : Eb).num := Cq.ext' rfl hc
   have hb : BdAt V2 (BdV.mk 0 x) ⟨0, z.re⟩ := ⟨rfl, by rw [← e]; exact hx.le (View.le_trans l1 l2), .inl rfl⟩
   have hzz : (⟨0, z.re⟩ : Eb).num.sz ≤ 2 ^ 40 := by rw [← e]; exact hz
   have s1 : (endE s.lo).num.sz ≤ 2 ^ 40 := Nat.le_trans (d08 h.lo) (by omega)
   have s2 : (endE s.hi).num.sz ≤ 2 ^ 40 := Nat.le_trans (d08 h.hi) (by omega)
   refine (C03 (hr.lo.le l2) hb s1 hzz).mono fun v V3 l3 hv => ⟨_, hv, fun hd => ?_, fun hd => ?_⟩
   · refine (C03 (hb.le l3) (hr.hi.le (View.le_trans l2 l3)) hzz s2).mono fun v V4 _ hv => ⟨_, hv, ?_⟩
     have hd : s.set.lo.cmp ⟨0, z.re⟩ ≤ 0 := by simpa using hd
     have hd : (endE s.lo).cmp ⟨0, z.re⟩ ≤ 0 := hd
     show Value.bool _ = _
     unfold Sk.has; rw [hc, decide_eq_true hd]; simp; rfl
   · have hd : ¬ s.set.lo.cmp ⟨0, z.re⟩ ≤ 0 := by simpa using hd
     have hd : ¬ (endE s.lo).cmp ⟨0, z.re⟩ ≤ 0 := hd
     unfold Sk.has; rw [decide_eq_false hd]; simp
 · have hc : ¬ z.im = 0 := by simpa using hc
   simp [hc]
theorem o0t {V : View} {c d : CxV} (h1 : c.re < 2 ^ 64) (h2 : c.im < 2 ^ 64) (h3 : d.re < 2 ^ 64) (h4 : d.im < 2 ^ 64) : a00 prog J0p #[.complex .f64 c.re c.im, .complex .f64 d.re d.im] V fun v _ => v = .tuple #[(mkB c.re c.im d.re d.im).v.val, .int .i64 (mkBE c.re c.im d.re d.im)] := by
 refine D0n c d V _ ((g08 h1 h3).mono fun v V1 _ hv => ⟨_, _, hv, (g08 h2 h4).mono fun v V2 _ hv => ⟨_, _, hv, fun hc => ?_, fun hc => ?_⟩⟩)
 · have hc : mkE c.re d.re = 1 := by simpa using hc
   have e : mkBE c.re c.im d.re d.im = 1 := by unfold mkBE; rw [if_pos (.inl hc)]
   unfold mkB; rw [e]; rfl
 have c1 : ¬ mkE c.re d.re = 1 := by simpa using hc
 refine ⟨fun hc => ?_, fun hc => ?_⟩
 · have hc : mkE c.im d.im = 1 := by simpa using hc
   have e : mkBE c.re c.im d.re d.im = 1 := by unfold mkBE; rw [if_pos (.inr hc)]
   unfold mkB; rw [e]; rfl
 have c2 : ¬ mkE c.im d.im = 1 := by simpa using hc
 have hno : ¬ (mkE c.re d.re = 1 ∨ mkE c.im d.im = 1) := by rintro (h | h); exact c1 h; exact c2 h
 refine ⟨fun hc => ?_, fun hc => ?_⟩
 · have hc : mkE c.re d.re ≠ 0 := by simpa using hc
   have e : mkBE c.re c.im d.re d.im = 7 := by unfold mkBE; rw [if_neg hno, if_pos (.inl hc)]
   unfold mkB; rw [e]; rfl
 have c3 : ¬ mkE c.re d.re ≠ 0 := by simpa using hc
 refine ⟨fun hc => ?_, fun hc => ?_⟩
 · have hc : mkE c.im d.im ≠ 0 := by simpa using hc
   have e : mkBE c.re c.im d.re d.im = 7 := by unfold mkBE; rw [if_neg hno, if_pos (.inr hc)]
   unfold mkB; rw [e]; rfl
 have c4 : ¬ mkE c.im d.im ≠ 0 := by simpa using hc
 have e : mkBE c.re c.im d.re d.im = 0 := by unfold mkBE; rw [if_neg hno, if_neg]; rintro (h | h); exact c3 h; exact c4 h
 unfold mkB; rw [e]; rfl
theorem p0t {V : View} (b : BoxV) : a00 prog N0t #[b.val] V fun v _ => v = .complex .f64 b.re.lo b.im.lo := i0s b V _ rfl
theorem q0t {V : View} (b : BoxV) : a00 prog O0t #[b.val] V fun v _ => v = .complex .f64 b.re.hi b.im.hi := j0s b V _ rfl
theorem U0l {V : View} {b : Bk} (h : b.ok) {x : NumV} {z : Cq} (hx : L01 V x z) (hz : z.sz ≤ 2 ^ 39) : a00 prog D0r #[b.v.val, x.val] V fun v _ => v = .bool (b.has z) := by
 have hz1 := N0w z; have hz2 := O0w z
 refine G0q b.v x V _ ((W0n hx (by omega)).mono fun v V1 l1 ⟨r, hv, hr⟩ => ⟨r, hv, ?_⟩)
 refine (a0p h.re hr (by omega)).mono fun v V2 l2 hv => ⟨_, hv, fun hc => ?_, fun hc => ?_⟩
 · have hc : b.re.has z.re = true := by simpa using hc
   refine (X0n (hx.le (View.le_trans l1 l2)) (by omega)).mono fun v V3 l3 ⟨r, hv, hr⟩ => ⟨r, hv, ?_⟩
   refine (a0p h.im hr (by omega)).mono fun v V4 l4 hv => ⟨_, hv, ?_⟩
   unfold Bk.has; rw [hc]; simp
 · have hc : b.re.has z.re = false := by simpa using hc
   unfold Bk.has; rw [hc]; simp
theorem l07 {V : View} {b : Bk} (h : b.ok) : a00 prog z0m #[b.v.val] V fun v _ => v = .bool (!b.has Cq.zero) :=
 a0l b.v V _ ((U0l h (L01.zero V) (Nat.le_trans H04 (by omega))).mono fun v V1 _ hv => ⟨_, hv, rfl⟩)
theorem O0d {e f : Es} {S : Nat} (he : U00 e S) (hf : U00 f S) : U00 (e.add f) (2 * S + 1) := by
 have a := he.1; have b := he.2; have c := hf.1; have d := hf.2
 have h1 := z06 e.lo f.lo; have h2 := z06 e.hi f.hi
 exact ⟨show (e.lo.add f.lo).num.sz ≤ _ by omega, show (e.hi.add f.hi).num.sz ≤ _ by omega⟩
theorem L0b {e : Es} {S : Nat} (he : U00 e S) : U00 e.neg S := by
 refine ⟨?_, ?_⟩
 · show e.hi.neg.num.sz ≤ S; rw [m05]; exact he.2
 · show e.lo.neg.num.sz ≤ S; rw [m05]; exact he.1
theorem I05 {e f : Es} {S : Nat} (he : U00 e S) (hf : U00 f S) : U00 (e.mul f) (2 * S + 1) := by
 have hp := M0d he hf
 exact ⟨e08 (by unfold Es.prods; simp) hp, e08 (by unfold Es.prods; simp) hp⟩
theorem W0l {V : View} {b c : Bk} (h : b.ok) (k : c.ok) : a00 prog C0r #[b.v.val, c.v.val] V fun v _ => v = (b.mul c).v.val := by
 have s1 := z00 h.re; have s2 := z00 h.im; have s3 := z00 k.re; have s4 := z00 k.im
 refine H0q b.v c.v V _ ((b03 h.re).mono fun v V1 l1 ⟨p, hv, hp⟩ => ⟨p, hv, ?_⟩)
 refine (b03 h.im).mono fun v V2 l2 ⟨q, hv, hq⟩ => ⟨q, hv, ?_⟩
 refine (b03 k.re).mono fun v V3 l3 ⟨r, hv, hr⟩ => ⟨r, hv, ?_⟩
 refine (b03 k.im).mono fun v V4 l4 ⟨s, hv, hs⟩ => ⟨s, hv, ?_⟩
 replace hp := hp.le (View.le_trans l2 (View.le_trans l3 l4)); replace hq := hq.le (View.le_trans l3 l4); replace hr := hr.le l4
 refine (G04 hp hr s1 s3 (by omega)).mono fun v V5 l5 ⟨x5, hv, h5⟩ => ⟨x5, hv, ?_⟩
 replace hp := hp.le l5; replace hq := hq.le l5; replace hr := hr.le l5; replace hs := hs.le l5
 refine (G04 hq hs s2 s4 (by omega)).mono fun v V6 l6 ⟨x6, hv, h6⟩ => ⟨x6, hv, ?_⟩
 replace hp := hp.le l6; replace hq := hq.le l6; replace hr := hr.le l6; replace hs := hs.le l6; replace h5 := h5.le l6
 refine (b09 h6).mono fun v V7 l7 ⟨x7, hv, h7⟩ => ⟨x7, hv, ?_⟩
 replace hp := hp.le l7; replace hq := hq.le l7; replace hr := hr.le l7; replace hs := hs.le l7; replace h5 := h5.le l7
 refine (d07 h5 h7 (I05 s1 s3) (L0b (I05 s2 s4)) (by omega)).mono fun v V8 l8 ⟨x8, hv, h8⟩ => ⟨x8, hv, ?_⟩
 replace hp := hp.le l8; replace hq := hq.le l8; replace hr := hr.le l8; replace hs := hs.le l8
 refine (x02 h8 (O0d (I05 s1 s3) (L0b (I05 s2 s4))) (by omega)).mono fun v V9 l9 hv => ⟨_, hv, ?_⟩
 replace hp := hp.le l9; replace hq := hq.le l9; replace hr := hr.le l9; replace hs := hs.le l9
 refine (G04 hp hs s1 s4 (by omega)).mono fun v V10 l10 ⟨x10, hv, h10⟩ => ⟨x10, hv, ?_⟩
 replace hq := hq.le l10; replace hr := hr.le l10
 refine (G04 hq hr s2 s3 (by omega)).mono fun v V11 l11 ⟨x11, hv, h11⟩ => ⟨x11, hv, ?_⟩
 refine (d07 (h10.le l11) h11 (I05 s1 s4) (I05 s2 s3) (by omega)).mono fun v V12 l12 ⟨x12, hv, h12⟩ => ⟨x12, hv, ?_⟩
 exact (x02 h12 (O0d (I05 s1 s4) (I05 s2 s3)) (by omega)).mono fun v V13 _ hv => ⟨_, hv, rfl⟩
theorem Bk.mul_ok (b c : Bk) : (b.mul c).ok := ⟨D0h _, D0h _⟩

def I07 (V : View) (n cap : Nat) (o : List Value) (es : List Eb) : Prop := ∃ l, e06 6 n cap o l ∧ W02 6 bdC V l es ∧ n = es.length
theorem I07.le {V V' : View} (hle : V.le V') {n cap : Nat} {o : List Value} {es : List Eb} (h : I07 V n cap o es) : I07 V' n cap o es := by
 obtain ⟨l, h1, h2, h3⟩ := h; exact ⟨l, h1, h2.imp (bdC.le hle), h3⟩
theorem x0h (r : BdV) : ∀ v ∈ [Value.int .i64 r.inf, .bool r.x.re.neg, r.x.re.mag.v, .bool r.x.im.neg, r.x.im.mag.v, r.x.under.v], Value.oneCell' v = true := by
 intro v hv
 simp only [List.mem_cons, List.not_mem_nil, or_false] at hv
 rcases hv with rfl | rfl | rfl | rfl | rfl | rfl <;> rfl
theorem s0t {V : View} {b : Nat} {l : List Value} (h : V b = some l.toArray) : V.has (some (Addr.mk b 0 none)) l := by
 intro j v hj
 rw [q0c h]
 simpa using hj
theorem I07.push {V1 : View} {n cap : Nat} {o : List Value} {es : List Eb} {r : BdV} {e : Eb} {b : Nat} {R : Nat → Nat → List Value → View → Prop} (h : I07 V1 n cap o es) (hr : BdAt V1 r e) (hl : es.length ≤ 2 ^ 20)
 (hb : V1 b = some #[.int .i64 r.inf, .bool r.x.re.neg, r.x.re.mag.v, .bool r.x.im.neg, r.x.im.mag.v, r.x.under.v]) (hR : ∀ c l3, I07 V1 (n + 1) c l3 (es ++ [e]) → R (n + 1) c l3 V1) :
 ∃ (l1 l2 : List Value), e06 6 n cap o l1 ∧ View.has V1 (some (Addr.mk b 0 none)) l2 ∧ List.length l2 = 1 * 6 ∧ (∀ v ∈ l2, Value.oneCell' v = true) ∧ n + 1 ≤ maxLen ∧ (n + 1) * 96 ≤ 140737488355328 ∧
  ∀ (c1 : Nat) (l3 : List Value), e06 6 (n + 1) c1 l3 (l1 ++ l2) → R (n + 1) c1 l3 V1 := by
 obtain ⟨l, h1, h2, h3⟩ := h
 refine ⟨l, _, h1, s0t (l := [.int .i64 r.inf, .bool r.x.re.neg, r.x.re.mag.v, .bool r.x.im.neg, r.x.im.mag.v, r.x.under.v]) hb, rfl, x0h r, Nat.le_trans (show n + 1 ≤ 2 ^ 20 + 1 by omega) (by decide), by omega, fun c1 l3 hl3 => hR _ _ ⟨_, hl3, ?_, by simp; omega⟩⟩
 exact W02.append h2 (W02.one rfl ⟨r, rfl, hr⟩)
theorem X0l (a b : Rat) : (⟨a, 0⟩ : Cq).div (⟨a, 0⟩ * ⟨a, 0⟩ + ⟨b, 0⟩ * ⟨b, 0⟩) = ⟨a / (a * a + b * b), 0⟩ := by
 rw [J09, J09, C0c]
 refine Cq.ext' ?_ ?_
 · show (a * (a * a + b * b) + 0 * 0) / ((a * a + b * b) * (a * a + b * b) + 0 * 0) = a / (a * a + b * b)
   by_cases h : a * a + b * b = 0
   · rw [h]; simp [Rat.div_def]; try grind
   · grind
 · show (0 * (a * a + b * b) - a * 0) / ((a * a + b * b) * (a * a + b * b) + 0 * 0) = 0
   have e : 0 * (a * a + b * b) - a * 0 = (0 : Rat) := by grind
   rw [e, Rat.div_def]; grind
theorem t0t {a b : Eb} {S : Nat} (ha : a.num.sz ≤ S) (hb : b.num.sz ≤ S) : (x03 a b).num.sz ≤ 32 * S + 40 := by
 unfold x03; split
 · have := H04; show Cq.zero.sz ≤ _; omega
 · show (⟨a.x / (a.x * a.x + b.x * b.x), 0⟩ : Cq).sz ≤ _
   rw [← X0l]
   have h1 := T01 a.num a.num; have h2 := T01 b.num b.num; have h3 := q04 (a.num * a.num) (b.num * b.num)
   have h4 := Y0u (z := a.num) (w := a.num * a.num + b.num * b.num) (S := 4 * S + 4) (by omega) (by omega)
   exact Nat.le_trans h4 (by omega)
theorem c09 {V : View} {a b : BdV} {e f : Eb} {n cap : Nat} {o : List Value} {es : List Eb} (ha : BdAt V a e) (hb : BdAt V b f) (he : e.num.sz ≤ 2 ^ 30) (hf : f.num.sz ≤ 2 ^ 30) (h : I07 V n cap o es) (hl : es.length ≤ 2 ^ 20) :
 a0c prog T0h ([a.val, b.val] : List Value) g0g i0g n cap o V fun n' cap' o' V' => I07 V' n' cap' o' (es ++ [x03 e f]) := by
 have iz : ∀ {V1 : View}, BdAt V1 (BdV.mk 0 (NumV.mk (WhV.mk false (Sl.mk none 0 0)) (WhV.mk false (Sl.mk none 0 0)) (Sl.mk none 0 0))) ⟨0, 0⟩ := BdAt.zero _
 refine j0g n cap o a b V _ ⟨fun hc b1 V1 l1 _ hb1 => ?_, fun hc => ⟨fun hd b1 V1 l1 _ hb1 => ?_, fun hd => ?_⟩⟩
 · have hc : e.inf ≠ 0 := by rw [← ha.inf]; simpa using hc
   have e1 : x03 e f = ⟨0, 0⟩ := by unfold x03; rw [if_pos (.inl hc)]
   rw [e1]
   exact (h.le l1).push (R := fun n' cap' o' V' => I07 V' n' cap' o' (es ++ [⟨0, 0⟩])) (r := BdV.mk 0 (NumV.mk (WhV.mk false (Sl.mk none 0 0)) (WhV.mk false (Sl.mk none 0 0)) (Sl.mk none 0 0))) iz hl hb1 fun _ _ h => h
 · have hd : f.inf ≠ 0 := by rw [← hb.inf]; simpa using hd
   have e1 : x03 e f = ⟨0, 0⟩ := by unfold x03; rw [if_pos (.inr hd)]
   rw [e1]
   exact (h.le l1).push (R := fun n' cap' o' V' => I07 V' n' cap' o' (es ++ [⟨0, 0⟩])) (r := BdV.mk 0 (NumV.mk (WhV.mk false (Sl.mk none 0 0)) (WhV.mk false (Sl.mk none 0 0)) (Sl.mk none 0 0))) iz hl hb1 fun _ _ h => h
 · have hc : ¬ e.inf ≠ 0 := by rw [← ha.inf]; simpa using hc
   have hd : ¬ f.inf ≠ 0 := by rw [← hb.inf]; simpa using hd
   have s1 := T01 e.num e.num; have s2 := T01 f.num f.num; have s3 := q04 (e.num * e.num) (f.num * f.num)
   refine (Y02 ha.num ha.num (by omega) (by omega)).mono fun v V1 l1 ⟨r1, hv, h1⟩ => ⟨r1, hv, ?_⟩
   refine (Y02 (hb.num.le l1) (hb.num.le l1) (by omega) (by omega)).mono fun v V2 l2 ⟨r2, hv, h2⟩ => ⟨r2, hv, ?_⟩
   refine (c07 (h1.le l2) h2 (by omega) (by omega)).mono fun v V3 l3 ⟨r3, hv, h3⟩ => ⟨r3, hv, ?_⟩
   have L3 := View.le_trans l1 (View.le_trans l2 l3)
   refine (e0d (ha.num.le L3) h3 (by omega) (by omega)).mono fun v V4 l4 ⟨r4, er, hv, hz, hn⟩ => ⟨r4, er, hv, fun b1 V5 l5 _ hb1 => ?_⟩
   have h4 : L01 V4 r4 (x03 e f).num := by
    have e1 : (x03 e f).num = e.num.div (e.num * e.num + f.num * f.num) := by
     unfold x03; rw [if_neg (by rintro (h | h); exact hc h; exact hd h)]; exact (X0l e.x f.x).symm
    rw [e1]
    by_cases h0 : e.num * e.num + f.num * f.num = Cq.zero
    · have := (hz h0).2
      have e2 : e.num.div (e.num * e.num + f.num * f.num) = Cq.zero := by
       rw [h0]; refine Cq.ext' ?_ ?_
       · show (_ : Rat) / (0 * 0 + 0 * 0) = 0; simp [Rat.div_def]; try grind
       · show (_ : Rat) / (0 * 0 + 0 * 0) = 0; simp [Rat.div_def]; try grind
      rw [e2]; exact this
    · exact (hn h0).2
   have hi : (x03 e f).inf = 0 := by unfold x03; split <;> rfl
   have h5 : BdAt V5 (BdV.mk 0 r4) (x03 e f) := ⟨hi.symm, h4.le l5, .inl hi⟩
   exact (h.le (View.le_trans L3 (View.le_trans l4 l5))).push (R := fun n' cap' o' V' => I07 V' n' cap' o' (es ++ [x03 e f])) (r := BdV.mk 0 r4) h5 hl hb1 fun _ _ h => h
theorem H0a {V : View} {b : Nat} {r1 r2 : BdV} {e1 e2 : Eb} (h1 : BdAt V r1 e1) (h2 : BdAt V r2 e2)
 (hb : V b = some #[.int .i64 r1.inf, .bool r1.x.re.neg, r1.x.re.mag.v, .bool r1.x.im.neg, r1.x.im.mag.v, r1.x.under.v, .int .i64 r2.inf, .bool r2.x.re.neg, r2.x.re.mag.v, .bool r2.x.im.neg, r2.x.im.mag.v, r2.x.under.v]) :
 p0g V ⟨some ⟨b, 0, none⟩, 2, 2⟩ [e1, e2] :=
 J05 (o := r1.val.cells.toList ++ (r2.val.cells.toList ++ [])) hb ⟨_, _, rfl, rfl, ⟨r1, rfl, h1⟩, _, _, rfl, rfl, ⟨r2, rfl, h2⟩, rfl⟩ rfl
theorem t0j {V : View} {b : Nat} {e1 e2 : Eb} (h : p0g V ⟨some ⟨b, 0, none⟩, 2, 2⟩ [e1, e2]) {i : Nat} (hi : i < 2) :
 ((0 : Int) ≤ (i : Int) ∧ (i : Int) < (2 : Nat) ∧ Option.isSome (some (Addr.mk b 0 none)) = true) ∧
 ∃ x : BdV, View.has V (Option.map (fun q => Addr.add q (Int.toNat (i : Int) * 6)) (some (Addr.mk b 0 none))) (x.val).cells.toList ∧ Option.isSome (Option.map (fun q => Addr.add q (Int.toNat (i : Int) * 6)) (some (Addr.mk b 0 none))) = true ∧ BdAt V x (at2 e1 e2 i) := by
 obtain ⟨hb, x, ⟨b0, hx, hb0⟩, _, hh, hs⟩ := a02.get h (t := (i : Int)) (by omega) (z := at2 e1 e2 i) (by
  rw [Int.toNat_natCast]
  rcases (by omega : i = 0 ∨ i = 1) with rfl | rfl <;> rfl)
 exact ⟨hb, b0, hx ▸ hh, hs, hb0⟩
theorem b0p {e1 e2 : Eb} {S i : Nat} (h1 : e1.num.sz ≤ S) (h2 : e2.num.sz ≤ S) : (at2 e1 e2 i).num.sz ≤ S := by
 cases i with
 | zero => exact h1
 | succ i => exact h2
theorem I0a {x y : Es} (sx : U00 x (2 ^ 12)) (sy : U00 y (2 ^ 12)) : ∀ e ∈ U0c x y, e.num.sz ≤ 2 ^ 18 := by
 have v : ∀ {a b : Eb}, a.num.sz ≤ 2 ^ 12 → b.num.sz ≤ 2 ^ 12 → (x03 a b).num.sz ≤ 2 ^ 18 := fun ha hb => Nat.le_trans (t0t ha hb) (by omega)
 have z : (Eb.fin 0).num.sz ≤ 2 ^ 12 := Nat.le_trans G0a (by omega)
 have A : ∀ {a : Eb}, a.num.sz ≤ 2 ^ 12 → ∀ e ∈ rowA y a, e.num.sz ≤ 2 ^ 18 := by
  intro a ha e he
  unfold rowA rowZ at he
  split at he
  · simp only [List.cons_append, List.nil_append, List.mem_cons, List.not_mem_nil, or_false] at he
    rcases he with rfl | rfl | rfl
    · exact v ha sy.1
    · exact v ha sy.2
    · exact v ha z
  · simp only [List.append_nil, List.mem_cons, List.not_mem_nil, or_false] at he
    rcases he with rfl | rfl
    · exact v ha sy.1
    · exact v ha sy.2
 have C : ∀ {b a : Eb}, b.num.sz ≤ 2 ^ 12 → a.num.sz ≤ 2 ^ 12 → ∀ e ∈ colB x b a, e.num.sz ≤ 2 ^ 18 := by
  intro b a hb ha e he
  unfold colB at he
  split at he
  · simp only [List.mem_cons, List.not_mem_nil, or_false] at he
    subst he; exact v ha hb
  · simp at he
 have B : ∀ {b : Eb}, b.num.sz ≤ 2 ^ 12 → ∀ e ∈ rowB x b, e.num.sz ≤ 2 ^ 18 := by
  intro b hb e he
  unfold rowB at he
  rcases List.mem_append.1 he with h | h
  · exact C hb hb e h
  · exact C hb (by rw [m05]; exact hb) e h
 intro e he
 simp only [U0c, preB, preA] at he
 rcases List.mem_append.1 he with h | h
 · rcases List.mem_append.1 h with h | h
   · exact A sx.1 e h
   · exact A sx.2 e h
 · rcases List.mem_append.1 h with h | h
   · exact B sy.1 e h
   · exact B sy.2 e h
theorem u0t {x y : Es} (sx : U00 x (2 ^ 12)) (sy : U00 y (2 ^ 12)) : ∀ e ∈ U0c x y, e.num.sz ≤ 2 ^ 40 := fun e he => Nat.le_trans (I0a sx sy e he) (by omega)
theorem y0h {V : View} {s t : SetV} {x y : Es} (hx : EsAt V s x) (hy : EsAt V t y) (sx : U00 x (2 ^ 12)) (sy : U00 y (2 ^ 12)) :
 a00 prog B0m #[s.val, t.val] V fun v V' => ∃ r : SetV, v = r.val ∧ EsAt V' r (x.share y) := by
 refine X0k s t V _
  (fun _ w V' => ∃ i : Nat, i ≤ 2 ∧ w.t22 = i ∧ I07 V' w.o5_0l w.o5_0c w.o6 (preA x y i)) (fun _ w _ => (2 - w.t22).toNat)
  (fun c w V' => ∃ j : Nat, j ≤ 2 ∧ w.t32 = j ∧ I07 V' w.o5_0l w.o5_0c w.o6 (preA x y c.t22.toNat ++ inA y (at2 x.lo x.hi c.t22.toNat) j)) (fun _ w _ => (2 - w.t32).toNat)
  (fun _ w V' => ∃ i : Nat, i ≤ 2 ∧ w.t59 = i ∧ I07 V' w.o5_0l w.o5_0c w.o6 (preB x y i)) (fun _ w _ => (2 - w.t59).toNat)
  (fun c w V' => ∃ j : Nat, j ≤ 2 ∧ w.t68 = j ∧ I07 V' w.o5_0l w.o5_0c w.o6 (preB x y c.t59.toNat ++ inB x (at2 y.lo y.hi c.t59.toNat) j)) (fun _ w _ => (2 - w.t68).toNat) ?_
 intro b1 V1 l1 _ hb1
 replace hx := hx.le l1; replace hy := hy.le l1
 have hxs := H0a hx.lo hx.hi hb1
 refine ⟨⟨0, by omega, rfl, [], e06.nil, rfl, rfl⟩, ?_⟩
 rintro ⟨t22, o4, o5l, o5c, o6⟩ V2 l2 ⟨i, hi, rfl, hg⟩
 dsimp only at hg ⊢
 have big : ∀ {e : Eb}, e.num.sz ≤ 2 ^ 12 → e.num.sz ≤ 2 ^ 30 := fun h => Nat.le_trans h (by omega)
 have big40 : ∀ {e : Eb}, e.num.sz ≤ 2 ^ 12 → e.num.sz ≤ 2 ^ 40 := fun h => Nat.le_trans h (by omega)
 refine ⟨fun hlt => ?_, fun hge => ?_⟩
 · simp only [decide_eq_true_eq] at hlt
   have hi2 : i < 2 := by omega
   obtain ⟨hb, x3, hh, hs, hx3⟩ := t0j (hxs.le l2) hi2
   have sx3 : (at2 x.lo x.hi i).num.sz ≤ 2 ^ 12 := b0p sx.1 sx.2
   refine ⟨hb, x3, hh, hs, fun b2 V3 l3 _ hb2 => ?_⟩
   have hys := H0a (hy.lo.le (View.le_trans l2 l3)) (hy.hi.le (View.le_trans l2 l3)) hb2
   refine ⟨⟨0, by omega, rfl, ?_⟩, ?_⟩
   · rw [Int.toNat_natCast]; simpa [inA] using hg.le l3
   rintro ⟨t32, q5l, q5c, q6⟩ V4 l4 ⟨j, hj, rfl, hg2⟩
   dsimp only at hg2 ⊢
   rw [Int.toNat_natCast] at hg2
   have L34 := View.le_trans l3 l4
   have ln1 := C0o x y i; have ln2 := u0v y (at2 x.lo x.hi i) j
   refine ⟨fun hlt2 => ?_, fun hge2 => ?_⟩
   · simp only [decide_eq_true_eq] at hlt2
     have hj2 : j < 2 := by omega
     obtain ⟨hb', x6, hh', hs', hx6⟩ := t0j (hys.le l4) hj2
     refine ⟨hb', x6, hh', hs', ?_⟩
     refine (c09 (hx3.le L34) hx6 (big sx3) (big (b0p sy.1 sy.2)) hg2 (by simp only [List.length_append]; omega)).mono fun n' c' o' V5 l5 _ hg3 => ?_
     rw [i64w (by omega) (by omega)]
     rw [List.append_assoc, b0u y _ hj2] at hg3
     refine ⟨⟨j + 1, by omega, by simp, ?_⟩, ?_⟩
     · rw [Int.toNat_natCast]; exact hg3
     · omega
   · simp only [decide_eq_false_iff_not] at hge2
     have hj2 : j = 2 := by omega
     subst hj2
     have done : ∀ {V' : View} {n c : Nat} {o : List Value}, I07 V' n c o (preA x y i ++ inA y (at2 x.lo x.hi i) 2 ++ rowZ y (at2 x.lo x.hi i)) → ∃ i' : Nat, i' ≤ 2 ∧ (i : Int) + 1 = i' ∧ I07 V' n c o (preA x y i') := by
      intro V' n c o h
      refine ⟨i + 1, by omega, by simp, ?_⟩
      rw [← F0s x y hi2]
      rw [List.append_assoc] at h; exact h
     have hy4 := hy.le (View.le_trans l2 L34)
     refine (f08 hy4 sy (by omega)).mono fun v V6 l6 hv => ⟨_, hv, fun hc => ?_, fun hc => ?_⟩
     · have hx3' := hx3.le (View.le_trans L34 l6)
       refine (K02 hx3' (big40 sx3)).mono fun v V7 l7 hv => ⟨_, hv, fun hd => ?_, fun hd => ?_⟩
       · have hd : (at2 x.lo x.hi i).sign ≠ 0 := by simpa using hd
         refine (c09 (hx3'.le l7) (BdAt.zero V7) (big sx3) (Nat.le_trans G0a (by omega)) (hg2.le (View.le_trans l6 l7)) (by simp only [List.length_append]; omega)).mono fun n' c' o' V8 l8 _ hg3 => ?_
         rw [i64w (by omega) (by omega)]
         refine ⟨done ?_, by omega⟩
         have : rowZ y (at2 x.lo x.hi i) = [x03 (at2 x.lo x.hi i) (Eb.fin 0)] := by unfold rowZ; rw [if_pos ⟨hc, hd⟩]
         rw [this]; exact hg3
       · have hd : (at2 x.lo x.hi i).sign = 0 := by simpa using hd
         rw [i64w (by omega) (by omega)]
         refine ⟨done ?_, by omega⟩
         have : rowZ y (at2 x.lo x.hi i) = [] := by unfold rowZ; rw [if_neg (fun h => h.2 hd)]
         rw [this, List.append_nil]; exact hg2.le (View.le_trans l6 l7)
     · rw [i64w (by omega) (by omega)]
       refine ⟨done ?_, by omega⟩
       have : rowZ y (at2 x.lo x.hi i) = [] := by unfold rowZ; rw [if_neg (fun h => by rw [hc] at h; simp at h)]
       rw [this, List.append_nil]; exact hg2.le l6
 · simp only [decide_eq_false_iff_not] at hge
   have hi2 : i = 2 := by omega
   subst hi2
   intro b3 V9 l9 _ hb3
   replace hx := hx.le (View.le_trans l2 l9); replace hy := hy.le (View.le_trans l2 l9)
   have hys := H0a hy.lo hy.hi hb3
   refine ⟨⟨0, by omega, rfl, hg.le l9⟩, ?_⟩
   rintro ⟨t59, r4, r5l, r5c, r6⟩ V10 l10 ⟨k, hk, rfl, hgk⟩
   dsimp only at hgk ⊢
   refine ⟨fun hlt => ?_, fun hge => ?_⟩
   · simp only [decide_eq_true_eq] at hlt
     have hk2 : k < 2 := by omega
     obtain ⟨hb, x13, hh, hs, hx13⟩ := t0j (hys.le l10) hk2
     have s13 : (at2 y.lo y.hi k).num.sz ≤ 2 ^ 12 := b0p sy.1 sy.2
     refine ⟨hb, x13, hh, hs, ?_⟩
     refine (H05 hx13).mono fun v V11 l11 ⟨r3, hv, hr3⟩ => ⟨r3, hv, fun b4 V12 l12 _ hb4 => ?_⟩
     have hzs := H0a (hx13.le (View.le_trans l11 l12)) (hr3.le l12) hb4
     have sn : (at2 y.lo y.hi k).neg.num.sz ≤ 2 ^ 12 := by rw [m05]; exact s13
     refine ⟨⟨0, by omega, rfl, ?_⟩, ?_⟩
     · rw [Int.toNat_natCast]; simpa [inB] using hgk.le (View.le_trans l11 l12)
     rintro ⟨t68, q5l, q5c, q6⟩ V13 l13 ⟨j, hj, rfl, hg2⟩
     dsimp only at hg2 ⊢
     rw [Int.toNat_natCast] at hg2
     have L := View.le_trans l10 (View.le_trans l11 (View.le_trans l12 l13))
     have hx13' := hx13.le (View.le_trans l11 (View.le_trans l12 l13))
     have ln1 := D0o x y k; have ln2 := w0v x (at2 y.lo y.hi k) j
     refine ⟨fun hlt2 => ?_, fun hge2 => ?_⟩
     · simp only [decide_eq_true_eq] at hlt2
       have hj2 : j < 2 := by omega
       obtain ⟨hb', x16, hh', hs', hx16⟩ := t0j (hzs.le l13) hj2
       have s16 : (at2 (at2 y.lo y.hi k) (at2 y.lo y.hi k).neg j).num.sz ≤ 2 ^ 12 := b0p s13 sn
       refine ⟨hb', x16, hh', hs', ?_⟩
       have stay : ∀ {V' : View} {n c : Nat} {o : List Value}, I07 V' n c o (preB x y k ++ inB x (at2 y.lo y.hi k) j ++ colB x (at2 y.lo y.hi k) (at2 (at2 y.lo y.hi k) (at2 y.lo y.hi k).neg j)) →
        ∃ j' : Nat, j' ≤ 2 ∧ (j : Int) + 1 = j' ∧ I07 V' n c o (preB x y (Int.toNat (k : Int)) ++ inB x (at2 y.lo y.hi (Int.toNat (k : Int))) j') := by
        intro V' n c o h
        rw [Int.toNat_natCast]
        refine ⟨j + 1, by omega, by simp, ?_⟩
        rw [List.append_assoc, c0u x _ hj2] at h; exact h
       have none : ∀ {V' : View}, V13.le V' → ¬ ((at2 y.lo y.hi k).inf = 0 ∧ (at2 y.lo y.hi k).sign ≠ 0 ∧ x.lo.cmp (at2 (at2 y.lo y.hi k) (at2 y.lo y.hi k).neg j) ≤ 0 ∧ (at2 (at2 y.lo y.hi k) (at2 y.lo y.hi k).neg j).cmp x.hi ≤ 0) →
        I07 V' q5l q5c q6 (preB x y k ++ inB x (at2 y.lo y.hi k) j ++ colB x (at2 y.lo y.hi k) (at2 (at2 y.lo y.hi k) (at2 y.lo y.hi k).neg j)) := by
        intro V' hle hn
        have : colB x (at2 y.lo y.hi k) (at2 (at2 y.lo y.hi k) (at2 y.lo y.hi k).neg j) = [] := by unfold colB; rw [if_neg hn]
        rw [this, List.append_nil]; exact hg2.le hle
       refine ⟨fun ha => ?_, fun ha => ?_⟩
       · have ha : (at2 y.lo y.hi k).inf = 0 := by rw [← hx13.inf]; simpa using ha
         refine (K02 hx13' (big40 s13)).mono fun v V14 l14 hv => ⟨_, hv, fun hc => ?_, fun hc => ?_⟩
         · have hc : (at2 y.lo y.hi k).sign ≠ 0 := by simpa using hc
           refine (C03 (hx.lo.le (View.le_trans L l14)) (hx16.le l14) (big40 sx.1) (big40 s16)).mono fun v V15 l15 hv => ⟨_, hv, fun hd => ?_, fun hd => ?_⟩
           · have hd : x.lo.cmp (at2 (at2 y.lo y.hi k) (at2 y.lo y.hi k).neg j) ≤ 0 := by simpa using hd
             have M := View.le_trans l14 l15
             refine (C03 (hx16.le M) (hx.hi.le (View.le_trans L M)) (big40 s16) (big40 sx.2)).mono fun v V16 l16 hv => ⟨_, hv, fun he => ?_, fun he => ?_⟩
             · have he : (at2 (at2 y.lo y.hi k) (at2 y.lo y.hi k).neg j).cmp x.hi ≤ 0 := by simpa using he
               have M2 := View.le_trans M l16
               refine (c09 (hx16.le M2) (hx13'.le M2) (big s16) (big s13) (hg2.le M2) (by simp only [List.length_append]; omega)).mono fun n' c' o' V17 l17 _ hg3 => ?_
               rw [i64w (by omega) (by omega)]
               refine ⟨stay ?_, by omega⟩
               have : colB x (at2 y.lo y.hi k) (at2 (at2 y.lo y.hi k) (at2 y.lo y.hi k).neg j) = [x03 (at2 (at2 y.lo y.hi k) (at2 y.lo y.hi k).neg j) (at2 y.lo y.hi k)] := by unfold colB; rw [if_pos ⟨ha, hc, hd, he⟩]
               rw [this]; exact hg3
             · have he : ¬ (at2 (at2 y.lo y.hi k) (at2 y.lo y.hi k).neg j).cmp x.hi ≤ 0 := by simpa using he
               rw [i64w (by omega) (by omega)]
               exact ⟨stay (none (View.le_trans M l16) fun h => he h.2.2.2), by omega⟩
           · have hd : ¬ x.lo.cmp (at2 (at2 y.lo y.hi k) (at2 y.lo y.hi k).neg j) ≤ 0 := by simpa using hd
             rw [i64w (by omega) (by omega)]
             exact ⟨stay (none (View.le_trans l14 l15) fun h => hd h.2.2.1), by omega⟩
         · have hc : (at2 y.lo y.hi k).sign = 0 := by simpa using hc
           rw [i64w (by omega) (by omega)]
           exact ⟨stay (none l14 fun h => h.2.1 hc), by omega⟩
       · have ha : ¬ (at2 y.lo y.hi k).inf = 0 := by rw [← hx13.inf]; simpa using ha
         rw [i64w (by omega) (by omega)]
         exact ⟨stay (none (View.le_refl V13) fun h => ha h.1), by omega⟩
     · simp only [decide_eq_false_iff_not] at hge2
       have hj2 : j = 2 := by omega
       subst hj2
       rw [i64w (by omega) (by omega)]
       refine ⟨⟨k + 1, by omega, by simp, ?_⟩, by omega⟩
       rw [← G0s x y hk2]; exact hg2
   · simp only [decide_eq_false_iff_not] at hge
     have hk2 : k = 2 := by omega
     subst hk2
     intro b5 V18 l18 hb5
     obtain ⟨o, ho, hcs, hn⟩ := hgk.le l18
     have hL : p0g V18 ⟨lstA b5 r5c, r5l, r5c⟩ (U0c x y) := F0j ho hb5 hcs hn
     have hlen := D0o x y 2
     have hsz := u0t (x := x) (y := y) sx sy
     refine (A0c hL (A0b x y) (Nat.le_trans hlen (by omega)) hsz).mono fun v V19 l19 ⟨r7, hv, h7⟩ => ⟨r7, hv, ?_⟩
     exact (x06 (hL.le l19) (A0b x y) (Nat.le_trans hlen (by omega)) hsz).mono fun v V20 l20 ⟨r8, hv, h8⟩ => ⟨r8, hv, _, rfl, h7.le l20, h8⟩
theorem z0h {x y : Es} (sx : U00 x (2 ^ 12)) (sy : U00 y (2 ^ 12)) : U00 (x.share y) (2 ^ 18) :=
 ⟨e08 (A0b x y) (I0a sx sy), e08 (A0b x y) (I0a sx sy)⟩

theorem Z0u {s : Sk} (h : s.ok) : U00 s.set (2 ^ 12) := ⟨Nat.le_trans (d08 h.lo) (by omega), Nat.le_trans (d08 h.hi) (by omega)⟩
theorem Y0l {V : View} {b : Bk} (h : b.ok) : a00 prog B0r #[b.v.val] V fun v _ => v = .tuple #[b.inv.v.val, .int .i64 b.invE] := by
 refine F0q b.v V _ ((l07 h).mono fun v V1 _ hv => ⟨_, hv, fun hc => ?_, fun hc => ?_⟩)
 · have hc : b.clear = false := by unfold Bk.clear; simpa using hc
   unfold Bk.inv Bk.invE; rw [hc]; rfl
 · have hc : b.clear = true := by unfold Bk.clear; simpa using hc
   have s1 := Z0u h.re; have s2 := Z0u h.im
   refine (b03 h.re).mono fun v V2 l2 ⟨x, hv, hx⟩ => ⟨x, hv, (b03 h.im).mono fun v V3 l3 ⟨y, hv, hy⟩ => ⟨y, hv, ?_⟩⟩
   refine (y0h (hx.le l3) hy s1 s2).mono fun v V4 l4 ⟨r, hv, hr⟩ => ⟨r, hv, ?_⟩
   refine (x02 hr (z0h s1 s2) (by omega)).mono fun v V5 l5 hv => ⟨_, hv, ?_⟩
   have L := View.le_trans l4 l5
   refine (y0h (hy.le L) (hx.le (View.le_trans l3 L)) s2 s1).mono fun v V6 l6 ⟨q, hv, hq⟩ => ⟨q, hv, ?_⟩
   refine (b09 hq).mono fun v V7 l7 ⟨p, hv, hp⟩ => ⟨p, hv, ?_⟩
   refine (x02 hp (L0b (z0h s2 s1)) (by omega)).mono fun v V8 l8 hv => ⟨_, hv, ?_⟩
   unfold Bk.inv Bk.invE; rw [hc]; rfl
theorem c0r {V : View} : a00 prog c0k #[] V fun v _ => v = .bool true := by
 refine J0i V _ ?_
 refine (o0t (c := CxV.mk 4607182418800017408 0) (d := CxV.mk 4611686018427387904 4607182418800017408) (by decide) (by decide) (by decide) (by decide)).mono fun v V1 _ hv => ⟨awB.v, 0, ?_, ?_⟩
 · rw [hv]
   show Value.tuple #[(mkB 4607182418800017408 0 4611686018427387904 4607182418800017408).v.val, .int .i64 (mkBE 4607182418800017408 0 4611686018427387904 4607182418800017408)] = _
   rw [K0n.1, K0n.2]
 have ok : awB.ok := by rw [← K0n.1]; exact B0w _ _ _ _
 have okP : awP.ok := by rw [← M0u]; exact Bk.mul_ok _ _
 refine (Y0l ok).mono fun v V2 _ hv => ⟨awB.invB.v, 0, ?_, ?_⟩
 · rw [hv]; unfold Bk.inv Bk.invE; rw [d0j.1]; rfl
 refine (W0l ok ok).mono fun v V3 _ hv => ⟨awP.v, by rw [hv, M0u], ⟨fun _ => ⟨fun _ => ?_, fun h => absurd h (by decide)⟩, fun h => absurd h (by decide)⟩⟩
 refine (p0t awP.v).mono fun v V4 _ hv => ⟨CxV.mk 0 0, hv, fun _ => ?_, fun h => absurd h (by decide +kernel)⟩
 refine (q0t awP.v).mono fun v V5 _ hv => ⟨CxV.mk 4616189618054758400 4616189618054758400, hv, fun _ => ?_, fun h => absurd h (by decide +kernel)⟩
 have e1 : awB.invB.v.im.lo = 13826050856027422720 := by show Y00 awB.invB.im.lo = _; rw [N0u.1]; decide
 have e2 : awB.invB.v.re.hi = 4607182418800017408 := by show Y00 awB.invB.re.hi = _; rw [N0u.2]; decide
 refine (p0t awB.invB.v).mono fun v V6 _ hv => ⟨CxV.mk awB.invB.v.re.lo 13826050856027422720, by rw [hv, e1], fun _ => ?_, fun h => absurd h (by decide +kernel)⟩
 refine (q0t awB.invB.v).mono fun v V7 _ hv => ⟨CxV.mk 4607182418800017408 awB.invB.v.im.hi, by rw [hv, e2], fun _ => ?_, fun h => absurd h (by decide +kernel)⟩
 refine (l07 ok).mono fun v V8 _ hv => ⟨true, by rw [hv]; exact congrArg Value.bool d0j.1, fun _ => ?_, fun h => absurd h (by decide)⟩
 exact (l07 okP).mono fun v V9 _ hv => ⟨false, by rw [hv]; exact congrArg Value.bool d0j.2, rfl⟩
theorem A0h {V : View} (x y : Nat) : a00 prog d0k #[.float .f64 x, .float .f64 y] V fun v _ => v = .bool (decide (x = y)) := by
 refine I0i x y V _ ⟨_, a05 x, _, a05 y, ?_⟩
 congr 1
 by_cases h : x = y
 · subst h; simp
 · have : ¬ (x : Int) = y := by omega
   simp [h, this]
theorem g0f {V : View} (s r : SpV) : a00 prog W0a #[s.val, r.val] V fun v _ => v = .bool (decide (s = r)) := by
 have e : (s = r) ↔ (s.lo = r.lo ∧ s.hi = r.hi) := by
  constructor
  · rintro rfl; exact ⟨rfl, rfl⟩
  · rintro ⟨h1, h2⟩; cases s; cases r; simp at h1 h2; rw [h1, h2]
 refine f0g s r V _ ((n0t s).mono fun v V1 _ hv => ⟨_, _, hv, (A0h _ _).mono fun v V2 _ hv => ⟨_, hv, fun hc => ?_, fun hc => ?_⟩⟩)
 · refine (A0h _ _).mono fun v V3 _ hv => ⟨_, hv, ?_⟩
   have hc : s.lo = r.lo := by simpa using hc
   congr 1
   by_cases h : s.hi = r.hi
   · have h3 := e.2 ⟨hc, h⟩; simp [h, h3]
   · have h3 : ¬ s = r := fun q => h (e.1 q).2
     simp [h, h3]
 · have hc : ¬ s.lo = r.lo := by simpa using hc
   have h3 : ¬ s = r := fun q => hc (e.1 q).1
   simp [h3]
theorem M0b {V : View} {x : Nat} (h : okW x) : a00 prog S0p #[.float .f64 x] V fun v _ => v = .float .f64 (Y00 (key x)) := by
 have z0 : okW 0 := ⟨by decide, by decide⟩
 have k0 : key 0 = 0 := by decide
 refine A0n x V _ ⟨fun hc => ?_, fun hc => ?_⟩
 · rw [l08 h z0, k0] at hc
   have hc : key x = 0 := by simpa using hc
   rw [hc]; rfl
 · rw [l08 h z0, k0] at hc
   have hc : ¬ key x = 0 := by simpa using hc
   have : Y00 (key x) = x := s0l h.1 (by rintro rfl; exact hc (by decide))
   rw [this]
theorem N0b {V : View} {x y : Nat} (hx : x < 2 ^ 64) (hy : y < 2 ^ 64) : a00 prog t0e #[.float .f64 x, .float .f64 y] V fun v _ => v = .tuple #[(mkS x y).v.val, .int .i64 (mkE x y)] := by
 have bad : ∀ {e : Int}, mkE x y = e → e ≠ 0 → (Value.tuple #[(SpV.mk 0 0).val, .int .i64 e]) = .tuple #[(mkS x y).v.val, .int .i64 (mkE x y)] := by
  intro e he h0
  unfold mkS; rw [he, if_neg h0, Y0b]
 refine z0d x y V _ ((E04 hx).mono fun v V1 _ hv => ⟨_, hv, fun hc => ?_, fun hc => ?_⟩)
 · have hc : ¬ okW x := by simpa using hc
   exact bad (by unfold mkE; rw [if_pos (.inl hc)]) (by decide)
 have h1 : okW x := by simpa using hc
 refine (E04 hy).mono fun v V2 _ hv => ⟨_, hv, fun hc => ?_, fun hc => ?_⟩
 · have hc : ¬ okW y := by simpa using hc
   exact bad (by unfold mkE; rw [if_pos (.inr (.inl hc))]) (by decide)
 have h2 : okW y := by simpa using hc
 refine (L0d hx).mono fun v V3 _ hv => ⟨_, hv, fun hc => ?_, fun hc => ?_⟩
 · have hc : key x = (infR : Int) := by simp only [decide_eq_true_eq] at hc; exact hc.2
   exact bad (by unfold mkE; rw [if_pos (.inr (.inr (.inl hc)))]) (by decide)
 have h3 : ¬ key x = (infR : Int) := by simp only [decide_eq_false_iff_not] at hc; exact fun e => hc ⟨h1, e⟩
 refine (F09 hy).mono fun v V4 _ hv => ⟨_, hv, fun hc => ?_, fun hc => ?_⟩
 · have hc : key y = -(infR : Int) := by simp only [decide_eq_true_eq] at hc; exact hc.2
   exact bad (by unfold mkE; rw [if_pos (.inr (.inr (.inr hc)))]) (by decide)
 have h4 : ¬ key y = -(infR : Int) := by simp only [decide_eq_false_iff_not] at hc; exact fun e => hc ⟨h2, e⟩
 have hno : ¬ (¬ okW x ∨ ¬ okW y ∨ key x = (infR : Int) ∨ key y = -(infR : Int)) := by
  rintro (h | h | h | h)
  · exact h h1
  · exact h h2
  · exact h3 h
  · exact h4 h
 refine ⟨fun hc => ?_, fun hc => ?_⟩
 · rw [d0a h1 h2] at hc
   have hc : key y < key x := by simpa using hc
   exact bad (by unfold mkE; rw [if_neg hno, if_pos hc]) (by decide)
 · rw [d0a h1 h2] at hc
   have hc : ¬ key y < key x := by simpa using hc
   have he : mkE x y = 0 := by unfold mkE; rw [if_neg hno, if_neg hc]
   refine (M0b h1).mono fun v V5 _ hv => ⟨_, hv, (M0b h2).mono fun v V6 _ hv => ⟨_, hv, ?_⟩⟩
   unfold mkS; rw [he, if_pos rfl]; rfl
theorem j0a {V : View} {p : j0c} (h1 : U64 p.lo) (h2 : U64 p.hi) : a00 prog j0d #[p.val] V fun v _ => ∃ (s : Sk) (c : Bool), s.ok ∧ (c = true → s.proper) ∧ v = .tuple #[s.v.val, s.v.val, .bool c] := by
 obtain ⟨a, ha, ha2⟩ := h1.nat
 obtain ⟨b, hb, hb2⟩ := h2.nat
 have floats : a00 prog Y0a #[p.val] V fun v _ => ∃ x y : Nat, x < 2 ^ 64 ∧ y < 2 ^ 64 ∧ v = .tuple #[.float .f64 x, .float .f64 y] := by
  refine w0a p V _ ⟨a, by rw [ha]; exact J03 a, b, by rw [hb]; exact J03 b, fun _ => ?_, fun _ => ?_⟩
  · exact ⟨b, a, hb2, ha2, rfl⟩
  · exact ⟨a, b, ha2, hb2, rfl⟩
 refine m0c p V _ (floats.mono fun v V1 _ ⟨x, y, hx, hy, hv⟩ => ⟨x, y, hv, ?_⟩)
 refine (N0b hx hy).mono fun v V2 _ hv => ⟨_, _, hv, fun hc => ?_, fun hc => ?_⟩
 · exact ⟨Sk.nil, false, Sk.nil_ok, fun h => absurd h (by decide), rfl⟩
 · have hc : mkE x y = 0 := by simpa using hc
   refine (g08 hx hy).mono fun v V3 _ hv => ⟨_, _, hv, mkS x y, true, E0s x y, fun _ => S0q hc, rfl⟩

theorem u0j {V : View} {s t : Sk} (h : s.ok) (k : t.ok) : a00 prog G0p #[s.v.val, t.v.val] V fun v _ => v = (Sk.v (s.set.add t.set).span).val := by
 refine y0n s.v t.v V _ ((b03 h).mono fun v V1 l1 ⟨a, hv, ha⟩ => ⟨a, hv, (b03 k).mono fun v V2 l2 ⟨b, hv, hb⟩ => ⟨b, hv, ?_⟩⟩)
 refine (d07 (ha.le l2) hb (z00 h) (z00 k) (by omega)).mono fun v V3 l3 ⟨c, hv, hc⟩ => ⟨c, hv, ?_⟩
 exact (x02 hc (O0d (z00 h) (z00 k)) (by omega)).mono fun v V4 _ hv => ⟨_, hv, rfl⟩
theorem w0j {V : View} {s t : Sk} (h : s.ok) (k : t.ok) : a00 prog H0p #[s.v.val, t.v.val] V fun v _ => v = (Sk.v (s.set.add t.set.neg).span).val := by
 refine z0n s.v t.v V _ ((b03 h).mono fun v V1 l1 ⟨a, hv, ha⟩ => ⟨a, hv, (b03 k).mono fun v V2 l2 ⟨b, hv, hb⟩ => ⟨b, hv, ?_⟩⟩)
 refine (b09 hb).mono fun v V3 l3 ⟨d, hv, hd⟩ => ⟨d, hv, ?_⟩
 refine (d07 (ha.le (View.le_trans l2 l3)) hd (z00 h) (L0b (z00 k)) (by omega)).mono fun v V4 l4 ⟨c, hv, hc⟩ => ⟨c, hv, ?_⟩
 exact (x02 hc (O0d (z00 h) (L0b (z00 k))) (by omega)).mono fun v V5 _ hv => ⟨_, hv, rfl⟩

theorem w0t (x m k : Nat) : (if decide (sgI x m < 0) = true then -((m * 2 ^ k : Nat) : Int) else ((m * 2 ^ k : Nat) : Int)) = sgI x (m * 2 ^ k) := by
 by_cases z : m = 0
 · subst z; rw [Nat.zero_mul]; unfold sgI; split <;> split <;> rfl
 · have hp : 0 < 2 ^ k := Nat.pow_pos (by omega)
   have : 0 < m * 2 ^ k := Nat.mul_pos (by omega) hp
   unfold sgI
   by_cases c : 2 ^ 63 ≤ x
   · rw [if_pos c, if_pos c, if_pos (by rw [decide_eq_true_iff]; omega)]
   · rw [if_neg c, if_neg c, if_neg (by rw [decide_eq_true_iff]; omega)]
theorem D0d {V : View} {x : Nat} (h : finW x) : a00 prog Z0h #[.float .f64 x] V fun v V' => ∃ r : NumV, v = r.val ∧ QAt V' r ⟨fq x, 0⟩ := by
 have h64 := h.1
 have hfl : fld x < 2048 := by unfold fld; omega
 have hu := z0c x
 have hml := Z0e x
 have hp52 : (2 : Int) ^ (min (Int.toNat 52) u64.bits) = ((2 ^ 52 : Nat) : Int) := by decide
 have hp63 : (2 : Int) ^ (min (Int.toNat 63) u64.bits) = ((2 ^ 63 : Nat) : Int) := by decide
 have e1 : i64.wrap (u64.wrap (BitVec.toNat ((BitVec.ofInt u64.bits (Int.fdiv (x : Int) (2 ^ (min (Int.toNat 52) (u64.bits))))) &&& (BitVec.ofInt u64.bits 2047)))) = (fld x : Int) := by
  have := H09 (x := x / 2 ^ 52) (m := 2047) (by omega) (by omega)
  have e : x / 2 ^ 52 &&& 2047 = fld x := Nat.and_two_pow_sub_one_eq_mod (x / 2 ^ 52) 11
  rw [e] at this
  rw [hp52, K0b]
  rw [show (((2047 : Nat)) : Int) = 2047 from rfl] at this
  rw [this, i64w (by omega) (by omega)]
 have e2 : u64.wrap (BitVec.toNat ((BitVec.ofInt u64.bits (x : Int)) &&& (BitVec.ofInt u64.bits 4503599627370495))) = ((x % 2 ^ 52 : Nat) : Int) := by
  have := H09 (x := x) (m := 4503599627370495) (by omega) (by omega)
  have e : x &&& 4503599627370495 = x % 2 ^ 52 := Nat.and_two_pow_sub_one_eq_mod x 52
  rw [e] at this
  exact this
 have e3 : ((Int.fdiv (x : Int) (2 ^ (min (Int.toNat 63) (u64.bits))) : Int) == 1) = decide (2 ^ 63 ≤ x) := by
  rw [hp63, K0b]
  by_cases c : 2 ^ 63 ≤ x
  · have : x / 2 ^ 63 = 1 := by omega
    rw [this, decide_eq_true c]; rfl
  · have : x / 2 ^ 63 = 0 := by omega
    rw [this, decide_eq_false c]; rfl
 refine N0f x V _ ⟨x, a05 x, ?_⟩
 rw [e1, e2, e3]
 have hw : ∀ {V1 : View} {s : Sl} {n : Nat}, e00 V1 s n → n = mant x → a00 prog m06 #[.bool (decide (2 ^ 63 ≤ x)), s.v] V1 fun v V' => ∃ r : WhV, v = r.val ∧ H00 V' r (sgI x (mant x)) := by
  intro V1 s n hs hn
  refine (B01 (decide (2 ^ 63 ≤ x)) hs).mono fun v V2 _ ⟨r, hv, hr⟩ => ⟨r, hv, ?_⟩
  subst hn
  unfold sgI
  by_cases c : 2 ^ 63 ≤ x
  · rw [decide_eq_true c] at hr; rw [if_pos c]; simpa using hr
  · rw [decide_eq_false c] at hr; rw [if_neg c]; simpa using hr
 -- below the b04 of the ones
 have low : ∀ {V : View} {r2 : WhV} {k : Nat}, H00 V r2 (sgI x (mant x)) → (k : Int) = 1075 - (up1 x : Int) → ∀ (b2 : Nat) (V6 : View), View.le V V6 → View.Fin V6 → V6 b2 = some #[.int .u32 1] →
  a00 prog P07 #[(Sl.mk (some (Addr.mk b2 0 none)) 1 1).v, .int .i64 (k : Int)] V6 fun v V7 => ∃ r5 : Sl, v = r5.v ∧ a00 prog O07 #[r2.val, (WhV.mk false (Sl.mk none 0 0)).val, r5.v] V7 fun v V8 => ∃ r6 : NumV, v = r6.val ∧ ∃ r : NumV, r6.val = r.val ∧ QAt V8 r ⟨fq x, 0⟩ := by
  intro V r2 k hr hk b2 V6 l6 _ hb2
  refine (A01 (n := k) (e00.lit (n := 1) hb2 (by omega) (by omega)) (Nat.le_trans b0d (by decide)) (by omega)).mono fun v V7 l7 ⟨r5, hv, h5⟩ => ⟨r5, hv, ?_⟩
  rw [Nat.one_mul] at h5
  have R : Rep ⟨fq x, 0⟩ (sgI x (mant x)) 0 (2 ^ k) := by
   refine ⟨k0h k, ?_, a09 _⟩
   have := q0j (x := x) (k := k) (n := 0) h64 (by omega)
   rw [Nat.pow_zero, Nat.mul_one] at this
   exact this
  have b2k := Z01 k
  refine (F01 (hr.le (View.le_trans l6 l7)) (H00.zero V7) h5 R ?_ (by rw [Int.natAbs_zero, F03]; omega) (I04 (by omega))).mono fun v V8 _ ⟨r6, hv, h6⟩ => ⟨r6, hv, r6, rfl, h6⟩
  rw [a0f]; exact wn64 (by omega)
 refine ⟨fun hc => ?_, fun hc => ?_⟩
 · have hc : ((fld x : Nat) : Int) = 0 := by simpa using hc
   have hf0 : fld x = 0 := by omega
   have em : x % 2 ^ 52 = mant x := by unfold mant; rw [if_pos hf0]
   have eu : up1 x = 1 := by unfold up1; rw [if_pos hf0]
   rw [em]
   refine (l03 (n := ((mant x : Nat) : Int)) (by omega) (by omega)).mono fun v V1 _ ⟨s, hv, hs⟩ => ⟨s, hv, ?_⟩
   refine (hw hs (by omega)).mono fun v V2 _ ⟨r, hv, hr⟩ => ⟨r, hv, fun g => absurd g (by decide), fun _ => ?_⟩
   have w : i64.wrap (1075 - 1) = ((1074 : Nat) : Int) := by decide
   rw [w]
   exact low (k := 1074) hr (by omega)
 · have hf0 : fld x ≠ 0 := fun e => by rw [e] at hc; simp at hc
   have eu : up1 x = fld x := by unfold up1; rw [if_neg hf0]
   have e4 : u64.wrap (BitVec.toNat ((BitVec.ofInt u64.bits ((x % 2 ^ 52 : Nat) : Int)) ||| (BitVec.ofInt u64.bits 4503599627370496))) = ((mant x : Nat) : Int) := by
    have := m0h (x := x % 2 ^ 52) (m := 4503599627370496) (by omega) (by omega)
    have hor := Nat.two_pow_add_eq_or_of_lt (i := 52) (b := x % 2 ^ 52) (by omega) 1
    have e : x % 2 ^ 52 ||| 4503599627370496 = mant x := by
     rw [Nat.or_comm]
     have h1 : 2 ^ 52 * 1 = 4503599627370496 := by decide
     rw [h1] at hor
     rw [← hor]; unfold mant; rw [if_neg (by omega)]; omega
    rw [e] at this
    exact this
   rw [e4]
   refine (l03 (n := ((mant x : Nat) : Int)) (by omega) (by omega)).mono fun v V1 _ ⟨s, hv, hs⟩ => ⟨s, hv, ?_⟩
   refine (hw hs (by omega)).mono fun v V2 _ ⟨r, hv, hr⟩ => ⟨r, hv, fun hg => ?_, fun hg => ?_⟩
   · have hg : ((fld x : Nat) : Int) ≥ 1075 := by simpa using hg
     obtain ⟨k, hk⟩ : ∃ k : Nat, fld x = 1075 + k := ⟨fld x - 1075, by omega⟩
     have w : i64.wrap (((fld x : Nat) : Int) - 1075) = (k : Int) := by rw [i64w (by omega) (by omega)]; omega
     rw [w]
     have hr2 := hr.2
     rw [a0f] at hr2
     refine (A01 (n := k) hr2 (Nat.le_trans (wn64 (by omega)) (by decide)) (by omega)).mono fun v V3 l3 ⟨r3, hv, h3⟩ => ⟨r3, hv, ?_⟩
     refine (B01 r.neg h3).mono fun v V4 l4 ⟨r4, hv, h4⟩ => ⟨r4, hv, fun b V5 l5 _ hb => ⟨_, rfl, ?_⟩⟩
     rw [hr.1, w0t] at h4
     have e5 : fq x = ((sgI x (mant x * 2 ^ k) : Int) : Rat) := by
      have := q0j (x := x) (k := 0) (n := k) h64 (by omega)
      rw [this, Nat.pow_zero, Rat.div_def]
      have : ((1 : Nat) : Rat)⁻¹ = 1 := by decide +kernel
      rw [this, Rat.mul_one]
     have q := e07 (sgI x (mant x * 2 ^ k))
     rw [← e5] at q
     exact ⟨by rw [q.1]; exact h4.le l5, by rw [q.2.1]; exact H00.zero _, by rw [q.2.2]; exact e00.lit (n := 1) hb (by omega) (by omega)⟩
   · have hg : ¬ ((fld x : Nat) : Int) ≥ 1075 := by simpa using hg
     obtain ⟨k, hk⟩ : ∃ k : Nat, (k : Int) = 1075 - (fld x : Int) := ⟨1075 - fld x, by omega⟩
     have w : i64.wrap (1075 - ((fld x : Nat) : Int)) = (k : Int) := by rw [i64w (by omega) (by omega)]; omega
     rw [w]
     exact low hr (by omega)
theorem i0f {V : View} {x : Nat} (h : finW x) : a00 prog n0k #[.float .f64 x] V fun v V' => ∃ r : NumV, v = .tuple #[r.val, .int .i64 0] ∧ QAt V' r ⟨fq x, 0⟩ := by
 refine t0i x V _ ((C0d h.1).mono fun v V1 _ hv => ⟨_, hv, fun hc => ?_, fun _ => ?_⟩)
 · rw [decide_eq_true h.2] at hc; exact absurd hc (by decide)
 · exact (D0d h).mono fun v V2 _ ⟨r, hv, hr⟩ => ⟨r, hv, r, rfl, hr⟩
theorem j00 {V : View} {k : Int} (hk : inK k) : a00 prog y08 #[.float .f64 (Y00 k)] V fun v V' => ∃ b : BdV, v = b.val ∧ BqAt V' b (endE k) := by
 have h := okK hk
 have hx := keyK hk
 have whole : ∀ {V : View}, a00 prog N05 #[.int .i64 0] V fun v V' => ∃ r : NumV, v = r.val ∧ QAt V' r ⟨((0 : Int) : Rat), 0⟩ := J02 (by omega) (by omega)
 refine B0q (Y00 k) V _ ((L0d h.1).mono fun v V1 _ hv => ⟨_, hv, fun hc => ?_, fun hc => ?_⟩)
 · have hc : k = (infR : Int) := by simp only [decide_eq_true_eq] at hc; rw [← hx]; exact hc.2
   refine whole.mono fun v V2 _ ⟨r, hv, hr⟩ => ⟨r, hv, _, rfl, ?_⟩
   unfold endE; rw [if_pos hc]; exact .zero hr (.inr ⟨rfl, .inl rfl⟩)
 have hc : k ≠ (infR : Int) := by simp only [decide_eq_false_iff_not] at hc; rw [hx] at hc; exact fun e => hc ⟨h, e⟩
 refine (F09 h.1).mono fun v V2 _ hv => ⟨_, hv, fun hd => ?_, fun hd => ?_⟩
 · have hd : k = -(infR : Int) := by simp only [decide_eq_true_eq] at hd; rw [← hx]; exact hd.2
   refine whole.mono fun v V2 _ ⟨r, hv, hr⟩ => ⟨r, hv, _, rfl, ?_⟩
   unfold endE; rw [if_neg hc, if_pos hd]; exact .zero hr (.inr ⟨rfl, .inr rfl⟩)
 have hd : k ≠ -(infR : Int) := by simp only [decide_eq_false_iff_not] at hd; rw [hx] at hd; exact fun e => hd ⟨h, e⟩
 have hf : finW (Y00 k) := by unfold inK at hk; exact x0s (by omega) (by omega)
 refine (i0f hf).mono fun v V3 _ ⟨r, hv, hr⟩ => ⟨r, 0, hv, ?_⟩
 have e : fq (Y00 k) = fkq k := by rw [X0u, hx]
 rw [e] at hr
 refine (p03 hr).mono fun v V4 _ ⟨b, hv, hb⟩ => ⟨b, hv, b, rfl, ?_⟩
 unfold endE; rw [if_neg hc, if_neg hd]; exact hb
def bqC (V : View) (x : List Value) (e : Eb) : Prop := ∃ b : BdV, x = b.val.cells.toList ∧ BqAt V b e
theorem bqC.le {V V' : View} (hle : V.le V') (x : List Value) (e : Eb) (h : bqC V x e) : bqC V' x e := by
 obtain ⟨b, e1, hb⟩ := h; exact ⟨b, e1, hb.le hle⟩
def x0j (V : View) (s : Sl) (es : List Eb) : Prop := a02 6 bqC V s es
theorem x0j.le {V V' : View} (hle : V.le V') {s : Sl} {es : List Eb} (h : x0j V s es) : x0j V' s es := a02.le (bqC.le hle) hle h
theorem P0d {es : List Eb} (h : 0 < es.length) : es.take 1 = [es[0]] := by
 cases es with
 | nil => simp at h
 | cons e es => simp
theorem L06 {V : View} {s : Sl} {es : List Eb} (h : x0j V s es) (h0 : es ≠ []) (hn : es.length ≤ 2 ^ 32) (hS : ∀ e ∈ es, e.num.sz ≤ 2 ^ 38) :
 a00 prog H0c #[s.v] V fun v V' => ∃ b : BdV, v = b.val ∧ BqAt V' b (Eb.pick (-1) es) := by
 have hl := h.len
 have h1 : 1 ≤ es.length := by
  rcases Nat.eq_zero_or_pos es.length with c | c
  · exact absurd (List.eq_nil_of_length_eq_zero c) h0
  · exact c
 refine z0i s V _ (fun _ x V' => ∃ i : Nat, x.t4 = ((i + 1 : Nat) : Int) ∧ i + 1 ≤ es.length ∧ BqAt V' x.o3 (Eb.pick (-1) (es.take (i + 1))) ∧ (Eb.pick (-1) (es.take (i + 1))).num.sz ≤ 2 ^ 38) (fun _ x _ => (es.length - x.t4).toNat) ?_
 obtain ⟨hb, x, ⟨b0, hx, hb0⟩, _, hh, hs⟩ := a02.get h (t := 0) (by omega) (z := es[0]) (by simp)
 refine ⟨hb, b0, hx ▸ hh, hs, ⟨0, rfl, h1, ?_, ?_⟩, ?_⟩
 · rw [P0d h1]; exact hb0
 · rw [P0d h1]; exact hS _ (List.getElem_mem _)
 rintro ⟨t, o2, o3⟩ V2 l2 ⟨i, rfl, hi, ho, hz⟩
 dsimp only at ho hz ⊢
 rw [hl]
 refine ⟨fun hlt => ?_, fun hge => ?_⟩
 · simp only [decide_eq_true_eq] at hlt
   have hi2 : i + 1 < es.length := by omega
   obtain ⟨hb', x', ⟨b', hx', hb''⟩, _, hh', hs'⟩ := a02.get (h.le l2) (t := ((i + 1 : Nat) : Int)) (by omega) (z := es[i + 1]) (by rw [Int.toNat_natCast]; simp [hi2])
   rw [hl] at hb'
   refine ⟨hb', b', hx' ▸ hh', hs', ?_⟩
   have wi : i64.wrap (((i + 1 : Nat) : Int) + 1) = ((i + 1 + 1 : Nat) : Int) := by rw [i64w (by omega) (by omega)]; omega
   have rg := Eb.cmp_range es[i + 1] (Eb.pick (-1) (es.take (i + 1)))
   refine (J0b hb'' ho (hS _ (List.getElem_mem _)) hz).mono fun v V3 l3 hv => ⟨_, hv, fun hc => ?_, fun hc => ?_⟩
   · simp only [decide_eq_true_eq] at hc
     refine ⟨hb', b', s03 l3 (hx' ▸ hh'), hs', ?_⟩
     rw [wi]
     refine ⟨⟨i + 1, rfl, by omega, ?_, ?_⟩, by omega⟩
     · rw [A03 (-1) hi2, if_pos (by omega)]; exact hb''.le l3
     · rw [A03 (-1) hi2, if_pos (by omega)]; exact hS _ (List.getElem_mem _)
   · simp only [decide_eq_false_iff_not] at hc
     rw [wi]
     refine ⟨⟨i + 1, rfl, by omega, ?_, ?_⟩, by omega⟩
     · rw [A03 (-1) hi2, if_neg (by omega)]; exact ho.le l3
     · rw [A03 (-1) hi2, if_neg (by omega)]; exact hz
 · simp only [decide_eq_false_iff_not] at hge
   have : i + 1 = es.length := by omega
   rw [this, List.take_length] at ho
   exact ⟨_, rfl, ho⟩
theorem d05 {V : View} {s : Sl} {es : List Eb} (h : x0j V s es) (h0 : es ≠ []) (hn : es.length ≤ 2 ^ 32) (hS : ∀ e ∈ es, e.num.sz ≤ 2 ^ 38) :
 a00 prog E06 #[s.v] V fun v V' => ∃ b : BdV, v = b.val ∧ BqAt V' b (Eb.pick 1 es) := by
 have hl := h.len
 have h1 : 1 ≤ es.length := by
  rcases Nat.eq_zero_or_pos es.length with c | c
  · exact absurd (List.eq_nil_of_length_eq_zero c) h0
  · exact c
 refine q0d s V _ (fun _ x V' => ∃ i : Nat, x.t4 = ((i + 1 : Nat) : Int) ∧ i + 1 ≤ es.length ∧ BqAt V' x.o3 (Eb.pick 1 (es.take (i + 1))) ∧ (Eb.pick 1 (es.take (i + 1))).num.sz ≤ 2 ^ 38) (fun _ x _ => (es.length - x.t4).toNat) ?_
 obtain ⟨hb, x, ⟨b0, hx, hb0⟩, _, hh, hs⟩ := a02.get h (t := 0) (by omega) (z := es[0]) (by simp)
 refine ⟨hb, b0, hx ▸ hh, hs, ⟨0, rfl, h1, ?_, ?_⟩, ?_⟩
 · rw [P0d h1]; exact hb0
 · rw [P0d h1]; exact hS _ (List.getElem_mem _)
 rintro ⟨t, o2, o3⟩ V2 l2 ⟨i, rfl, hi, ho, hz⟩
 dsimp only at ho hz ⊢
 rw [hl]
 refine ⟨fun hlt => ?_, fun hge => ?_⟩
 · simp only [decide_eq_true_eq] at hlt
   have hi2 : i + 1 < es.length := by omega
   obtain ⟨hb', x', ⟨b', hx', hb''⟩, _, hh', hs'⟩ := a02.get (h.le l2) (t := ((i + 1 : Nat) : Int)) (by omega) (z := es[i + 1]) (by rw [Int.toNat_natCast]; simp [hi2])
   rw [hl] at hb'
   refine ⟨hb', b', hx' ▸ hh', hs', ?_⟩
   have wi : i64.wrap (((i + 1 : Nat) : Int) + 1) = ((i + 1 + 1 : Nat) : Int) := by rw [i64w (by omega) (by omega)]; omega
   have rg := Eb.cmp_range es[i + 1] (Eb.pick 1 (es.take (i + 1)))
   refine (J0b hb'' ho (hS _ (List.getElem_mem _)) hz).mono fun v V3 l3 hv => ⟨_, hv, fun hc => ?_, fun hc => ?_⟩
   · simp only [decide_eq_true_eq] at hc
     refine ⟨hb', b', s03 l3 (hx' ▸ hh'), hs', ?_⟩
     rw [wi]
     refine ⟨⟨i + 1, rfl, by omega, ?_, ?_⟩, by omega⟩
     · rw [A03 1 hi2, if_pos (by omega)]; exact hb''.le l3
     · rw [A03 1 hi2, if_pos (by omega)]; exact hS _ (List.getElem_mem _)
   · simp only [decide_eq_false_iff_not] at hc
     rw [wi]
     refine ⟨⟨i + 1, rfl, by omega, ?_, ?_⟩, by omega⟩
     · rw [A03 1 hi2, if_neg (by omega)]; exact ho.le l3
     · rw [A03 1 hi2, if_neg (by omega)]; exact hz
 · simp only [decide_eq_false_iff_not] at hge
   have : i + 1 = es.length := by omega
   rw [this, List.take_length] at ho
   exact ⟨_, rfl, ho⟩
theorem T03 {V : View} {a b : BdV} {e f : Eb} (ha : BqAt V a e) (hb : BqAt V b f) (hz : e.num.sz ≤ 2 ^ 30) (hw : f.num.sz ≤ 2 ^ 30) : a00 prog G0c #[a.val, b.val] V fun v _ => v = (Sk.v (Es.span ⟨e, f⟩)).val := by
 have il := ha.inf
 have ih := hb.inf
 refine A0i a b V _ (Q0o.mono fun v V1 l1 hv => ⟨_, hv, g0a.mono fun v V2 l2 hv => ⟨_, hv, fun h1 => ?_, fun h1 => ?_⟩⟩)
 · have h1 : e.inf = 0 := by rw [← il]; simpa using h1
   refine (S03 (ha.num.le (View.le_trans l1 l2)) hz).mono fun v V3 l3 hv => ⟨_, hv, fun h2 => ?_, fun h2 => ?_⟩
   · have h2 : f.inf = 0 := by rw [← ih]; simpa using h2
     refine (o03 (hb.num.le (View.le_trans l1 (View.le_trans l2 l3))) hw).mono fun v V4 l4 hv => ⟨_, hv, ?_⟩
     unfold Es.span Sk.v; rw [if_pos h1, if_pos h2]; rfl
   · have h2 : f.inf ≠ 0 := by rw [← ih]; simpa using h2
     unfold Es.span Sk.v; rw [if_pos h1, if_neg h2, ← Z0o]; rfl
 · have h1 : e.inf ≠ 0 := by rw [← il]; simpa using h1
   refine ⟨fun h2 => ?_, fun h2 => ?_⟩
   · have h2 : f.inf = 0 := by rw [← ih]; simpa using h2
     refine (o03 (hb.num.le (View.le_trans l1 l2)) hw).mono fun v V4 l4 hv => ⟨_, hv, ?_⟩
     unfold Es.span Sk.v; rw [if_neg h1, if_pos h2, ← N0d]; rfl
   · have h2 : f.inf ≠ 0 := by rw [← ih]; simpa using h2
     unfold Es.span Sk.v; rw [if_neg h1, if_neg h2, ← Z0o, ← N0d]

theorem o04 {k : Int} (h : inK k) : (endE k).num.sz ≤ 2 ^ 12 := Nat.le_trans (d08 h) (by omega)
theorem O0b {V : View} {s t : Sk} (h : s.ok) (k : t.ok) : a00 prog o0e #[s.v.val, t.v.val] V fun v _ => v = (Sk.v (s.set.add t.set).span).val := by
 have a1 := o04 h.lo; have a2 := o04 h.hi; have a3 := o04 k.lo; have a4 := o04 k.hi
 have s1 := z06 (endE s.lo) (endE t.lo); have s2 := z06 (endE s.hi) (endE t.hi)
 refine t0d s.v t.v V _ ((j00 h.lo).mono fun v V1 l1 ⟨r1, hv, h1⟩ => ⟨r1, hv, (j00 k.lo).mono fun v V2 l2 ⟨r2, hv, h2⟩ => ⟨r2, hv, ?_⟩⟩)
 refine (G05 (h1.le l2) h2 (by omega) (by omega)).mono fun v V3 l3 ⟨r3, hv, h3⟩ => ⟨r3, hv, ?_⟩
 refine (j00 h.hi).mono fun v V4 l4 ⟨r4, hv, h4⟩ => ⟨r4, hv, (j00 k.hi).mono fun v V5 l5 ⟨r5, hv, h5⟩ => ⟨r5, hv, ?_⟩⟩
 refine (G05 (h4.le l5) h5 (by omega) (by omega)).mono fun v V6 l6 ⟨r6, hv, h6⟩ => ⟨r6, hv, ?_⟩
 exact (T03 (h3.le (View.le_trans l4 (View.le_trans l5 l6))) h6 (by omega) (by omega)).mono fun v V7 _ hv => ⟨_, hv, rfl⟩
theorem P0b {V : View} {s t : Sk} (h : s.ok) (k : t.ok) : a00 prog p0e #[s.v.val, t.v.val] V fun v _ => v = (Sk.v (s.set.add t.set.neg).span).val := by
 have a1 := o04 h.lo; have a2 := o04 h.hi; have a3 := o04 k.lo; have a4 := o04 k.hi
 have n1 := m05 (endE t.lo); have n2 := m05 (endE t.hi)
 have s1 := z06 (endE s.lo) (endE t.hi).neg; have s2 := z06 (endE s.hi) (endE t.lo).neg
 refine u0d s.v t.v V _ ((j00 h.lo).mono fun v V1 l1 ⟨r1, hv, h1⟩ => ⟨r1, hv, (j00 k.hi).mono fun v V2 l2 ⟨r2, hv, h2⟩ => ⟨r2, hv, ?_⟩⟩)
 refine (Y08 h2).mono fun v V3 l3 ⟨r3, hv, h3⟩ => ⟨r3, hv, ?_⟩
 refine (G05 (h1.le (View.le_trans l2 l3)) h3 (by omega) (by omega)).mono fun v V4 l4 ⟨r4, hv, h4⟩ => ⟨r4, hv, ?_⟩
 refine (j00 h.hi).mono fun v V5 l5 ⟨r5, hv, h5⟩ => ⟨r5, hv, (j00 k.lo).mono fun v V6 l6 ⟨r6, hv, h6⟩ => ⟨r6, hv, ?_⟩⟩
 refine (Y08 h6).mono fun v V7 l7 ⟨r7, hv, h7⟩ => ⟨r7, hv, ?_⟩
 refine (G05 (h5.le (View.le_trans l6 l7)) h7 (by omega) (by omega)).mono fun v V8 l8 ⟨r8, hv, h8⟩ => ⟨r8, hv, ?_⟩
 exact (T03 (h4.le (View.le_trans l5 (View.le_trans l6 (View.le_trans l7 l8)))) h8 (by omega) (by omega)).mono fun v V9 _ hv => ⟨_, hv, rfl⟩
theorem y0u {V : View} {b : Nat} {r1 r2 r3 r4 : BdV} {e1 e2 e3 e4 : Eb} (h1 : BqAt V r1 e1) (h2 : BqAt V r2 e2) (h3 : BqAt V r3 e3) (h4 : BqAt V r4 e4)
 (hb : V b = some #[.int .i64 r1.inf, .bool r1.x.re.neg, r1.x.re.mag.v, .bool r1.x.im.neg, r1.x.im.mag.v, r1.x.under.v, .int .i64 r2.inf, .bool r2.x.re.neg, r2.x.re.mag.v, .bool r2.x.im.neg, r2.x.im.mag.v, r2.x.under.v, .int .i64 r3.inf, .bool r3.x.re.neg, r3.x.re.mag.v, .bool r3.x.im.neg, r3.x.im.mag.v, r3.x.under.v, .int .i64 r4.inf, .bool r4.x.re.neg, r4.x.re.mag.v, .bool r4.x.im.neg, r4.x.im.mag.v, r4.x.under.v]) :
 x0j V ⟨some ⟨b, 0, none⟩, 4, 4⟩ [e1, e2, e3, e4] :=
 J05 (o := r1.val.cells.toList ++ (r2.val.cells.toList ++ (r3.val.cells.toList ++ (r4.val.cells.toList ++ [])))) hb
  ⟨_, _, rfl, rfl, ⟨r1, rfl, h1⟩, _, _, rfl, rfl, ⟨r2, rfl, h2⟩, _, _, rfl, rfl, ⟨r3, rfl, h3⟩, _, _, rfl, rfl, ⟨r4, rfl, h4⟩, rfl⟩ rfl
theorem N0v {V : View} {b : Nat} {r1 r2 : BdV} {e1 e2 : Eb} (h1 : BqAt V r1 e1) (h2 : BqAt V r2 e2)
 (hb : V b = some #[.int .i64 r1.inf, .bool r1.x.re.neg, r1.x.re.mag.v, .bool r1.x.im.neg, r1.x.im.mag.v, r1.x.under.v, .int .i64 r2.inf, .bool r2.x.re.neg, r2.x.re.mag.v, .bool r2.x.im.neg, r2.x.im.mag.v, r2.x.under.v]) :
 x0j V ⟨some ⟨b, 0, none⟩, 2, 2⟩ [e1, e2] :=
 J05 (o := r1.val.cells.toList ++ (r2.val.cells.toList ++ [])) hb ⟨_, _, rfl, rfl, ⟨r1, rfl, h1⟩, _, _, rfl, rfl, ⟨r2, rfl, h2⟩, rfl⟩ rfl
theorem J07 {V : View} {a b c d : BdV} {x y : Es} (ha : BqAt V a x.lo) (hb : BqAt V b x.hi) (hc : BqAt V c y.lo) (hd : BqAt V d y.hi) {S : Nat} (hx : U00 x S) (hy : U00 y S) (hS : S ≤ 2 ^ 30) :
 a00 prog Q09 #[a.val, b.val, c.val, d.val] V fun v V' => ∃ s : Sl, v = s.v ∧ x0j V' s (Es.prods x y) := by
 have s1 := hx.1; have s2 := hx.2; have s3 := hy.1; have s4 := hy.2
 refine D0e a b c d V _ ((n03 ha hc (by omega) (by omega)).mono fun v V1 l1 ⟨r1, hv, h1⟩ => ⟨r1, hv, ?_⟩)
 refine (n03 (ha.le l1) (hd.le l1) (by omega) (by omega)).mono fun v V2 l2 ⟨r2, hv, h2⟩ => ⟨r2, hv, ?_⟩
 have L2 := View.le_trans l1 l2
 refine (n03 (hb.le L2) (hc.le L2) (by omega) (by omega)).mono fun v V3 l3 ⟨r3, hv, h3⟩ => ⟨r3, hv, ?_⟩
 have L3 := View.le_trans L2 l3
 refine (n03 (hb.le L3) (hd.le L3) (by omega) (by omega)).mono fun v V4 l4 ⟨r4, hv, h4⟩ => ⟨r4, hv, fun b1 V5 l5 _ hb1 => ⟨_, rfl, ?_⟩⟩
 exact y0u (h1.le (View.le_trans l2 (View.le_trans l3 (View.le_trans l4 l5)))) (h2.le (View.le_trans l3 (View.le_trans l4 l5))) (h3.le (View.le_trans l4 l5)) (h4.le l5) hb1
theorem Q0b {V : View} {s t : Sk} (h : s.ok) (k : t.ok) : a00 prog s0e #[s.v.val, t.v.val] V fun v V' => ∃ q : Sl, v = q.v ∧ x0j V' q (Es.prods s.set t.set) := by
 refine s0d s.v t.v V _ ((j00 h.lo).mono fun v V1 l1 ⟨r1, hv, h1⟩ => ⟨r1, hv, (j00 h.hi).mono fun v V2 l2 ⟨r2, hv, h2⟩ => ⟨r2, hv, ?_⟩⟩)
 refine (j00 k.lo).mono fun v V3 l3 ⟨r3, hv, h3⟩ => ⟨r3, hv, (j00 k.hi).mono fun v V4 l4 ⟨r4, hv, h4⟩ => ⟨r4, hv, ?_⟩⟩
 exact (J07 (x := s.set) (y := t.set) (h1.le (View.le_trans l2 (View.le_trans l3 l4))) (h2.le (View.le_trans l3 l4)) (h3.le l4) h4 (z00 h) (z00 k) (by omega)).mono fun v V5 _ ⟨q, hv, hq⟩ => ⟨q, hv, q, rfl, hq⟩
theorem x0t {s t : Sk} (h : s.ok) (k : t.ok) : ∀ x ∈ Es.prods s.set t.set, x.num.sz ≤ 2 ^ 13 := fun x hx => by have := M0d (z00 h) (z00 k) x hx; omega
theorem S0b {V : View} {s t : Sk} (h : s.ok) (k : t.ok) : a00 prog q0e #[s.v.val, t.v.val] V fun v _ => v = (Sk.v (s.set.mul t.set).span).val := by
 have z := x0t h k
 have z2 : ∀ x ∈ Es.prods s.set t.set, x.num.sz ≤ 2 ^ 38 := fun x hx => Nat.le_trans (z x hx) (by omega)
 refine w0d s.v t.v V _ ((Q0b h k).mono fun v V1 l1 ⟨q, hv, hq⟩ => ⟨q, hv, ?_⟩)
 refine (L06 hq (n01 _ _) (by simp [Es.prods]) z2).mono fun v V2 l2 ⟨r2, hv, h2⟩ => ⟨r2, hv, ?_⟩
 refine (d05 (hq.le l2) (n01 _ _) (by simp [Es.prods]) z2).mono fun v V3 l3 ⟨r3, hv, h3⟩ => ⟨r3, hv, ?_⟩
 exact (T03 (h2.le l3) h3 (Nat.le_trans (e08 (n01 _ _) z) (by omega)) (Nat.le_trans (e08 (n01 _ _) z) (by omega))).mono fun v V4 _ hv => ⟨_, hv, rfl⟩
theorem k0a {V : View} {a : BdV} {e : Eb} (ha : BdAt V a e) (hz : e.num.sz ≤ 2 ^ 40) : a00 prog S0m #[a.val] V fun v V' => ∃ b : BdV, v = b.val ∧ BdAt V' b e.abs := by
 refine I0k a V _ ((K02 ha hz).mono fun v V1 l1 hv => ⟨_, hv, fun h => ?_, fun h => ?_⟩)
 · have h : e.sign < 0 := by simpa using h
   exact (H05 (ha.le l1)).mono fun v V2 _ ⟨b, hv, hb⟩ => ⟨b, hv, b, rfl, by unfold Eb.abs; rw [if_pos h]; exact hb⟩
 · have h : ¬ e.sign < 0 := by simpa using h
   exact ⟨a, rfl, by unfold Eb.abs; rw [if_neg h]; exact ha.le l1⟩
theorem c0p (e : Eb) : e.abs.num.sz = e.num.sz := by
 unfold Eb.abs; split
 · exact m05 e
 · rfl
theorem j0f {V : View} : a00 prog T0m #[.int .i64 0] V fun v V' => ∃ b : BdV, v = b.val ∧ BdAt V' b (Eb.fin 0) := by
 refine K0k 0 V _ ((U08 (by omega) (by omega)).mono fun v V1 _ ⟨r, hv, hr⟩ => ⟨r, hv, _, rfl, rfl, ?_, .inl rfl⟩)
 rw [Rat.intCast_zero] at hr; exact hr
theorem Z0l {e : Es} {S : Nat} (he : U00 e S) (hS : 1 ≤ S) : U00 e.size S := by
 have a := c0p e.lo; have b := c0p e.hi; have c := he.1; have d := he.2
 have p : ∀ way, (Eb.pick way [e.lo.abs, e.hi.abs]).num.sz ≤ S := fun way => e08 (by simp) (by intro x hx; simp at hx; rcases hx with rfl | rfl <;> omega)
 unfold Es.size; split
 · exact ⟨Nat.le_trans G0a hS, p 1⟩
 · exact ⟨p (-1), p 1⟩
theorem y0j {V : View} {s : SetV} {e : Es} (h : EsAt V s e) {S : Nat} (he : U00 e S) (hS : S ≤ 2 ^ 30) : a00 prog P0p #[s.val] V fun v V' => ∃ r : SetV, v = r.val ∧ EsAt V' r e.size := by
 have a := c0p e.lo; have b := c0p e.hi; have c := he.1; have d := he.2
 have p : ∀ x ∈ [e.lo.abs, e.hi.abs], x.num.sz ≤ 2 ^ 40 := by intro x hx; simp at hx; rcases hx with rfl | rfl <;> omega
 refine m0n s V _ ((k0a h.lo (by omega)).mono fun v V1 l1 ⟨r1, hv, h1⟩ => ⟨r1, hv, (k0a (h.hi.le l1) (by omega)).mono fun v V2 l2 ⟨r2, hv, h2⟩ => ⟨r2, hv, ?_⟩⟩)
 refine (f08 (h.le (View.le_trans l1 l2)) he hS).mono fun v V3 l3 hv => ⟨_, hv, fun hc => ?_, fun hc => ?_⟩
 · refine j0f.mono fun v V4 l4 ⟨r4, hv, h4⟩ => ⟨r4, hv, fun b1 V5 l5 _ hb1 => ?_⟩
   have L := View.le_trans l3 (View.le_trans l4 l5)
   refine (x06 (H0a (h1.le (View.le_trans l2 L)) (h2.le L) hb1) (by simp) (by simp) p).mono fun v V6 l6 ⟨r5, hv, h5⟩ => ⟨r5, hv, _, rfl, ?_⟩
   unfold Es.size; rw [if_pos hc]; exact ⟨h4.le (View.le_trans l5 l6), h5⟩
 · intro b2 V7 l7 _ hb2
   have L := View.le_trans l3 l7
   refine (A0c (H0a (h1.le (View.le_trans l2 L)) (h2.le L) hb2) (by simp) (by simp) p).mono fun v V8 l8 ⟨r6, hv, h6⟩ => ⟨r6, hv, fun b3 V9 l9 _ hb3 => ?_⟩
   have L2 := View.le_trans L (View.le_trans l8 l9)
   refine (x06 (H0a (h1.le (View.le_trans l2 L2)) (h2.le L2) hb3) (by simp) (by simp) p).mono fun v V10 l10 ⟨r7, hv, h7⟩ => ⟨r7, hv, _, rfl, ?_⟩
   unfold Es.size; rw [if_neg (by rw [hc]; decide)]; exact ⟨h6.le (View.le_trans l9 l10), h7⟩
theorem k0f {e : Es} {S : Nat} (he : U00 e S) (hS : 1 ≤ S) : U00 e.square (2 * S + 1) := by
 have z := Z0l he hS
 have a := F04 e.size.lo e.size.lo; have b := F04 e.size.hi e.size.hi
 have c := z.1; have d := z.2
 exact ⟨by show (e.size.lo.mul e.size.lo).num.sz ≤ _; omega, by show (e.size.hi.mul e.size.hi).num.sz ≤ _; omega⟩
theorem l0f {V : View} {s : SetV} {e : Es} (h : EsAt V s e) {S : Nat} (he : U00 e S) (h1S : 1 ≤ S) (hS : S ≤ 2 ^ 30) : a00 prog f0k #[s.val] V fun v V' => ∃ r : SetV, v = r.val ∧ EsAt V' r e.square := by
 have z := Z0l he h1S
 have c := z.1; have d := z.2
 refine p0i s V _ ((y0j h he hS).mono fun v V1 l1 ⟨r1, hv, h1⟩ => ⟨r1, hv, ?_⟩)
 refine (D03 h1.lo h1.lo (by omega) (by omega)).mono fun v V2 l2 ⟨r2, hv, h2⟩ => ⟨r2, hv, ?_⟩
 exact (D03 (h1.hi.le l2) (h1.hi.le l2) (by omega) (by omega)).mono fun v V3 l3 ⟨r3, hv, h3⟩ => ⟨r3, hv, _, rfl, h2.le l3, h3⟩
theorem z0j {V : View} {s t : Sk} (h : s.ok) (k : t.ok) : a00 prog I0p #[s.v.val, t.v.val] V fun v _ => v = (Sk.v (s.set.mul t.set).span).val := by
 refine n0n s.v t.v V _ ((b03 h).mono fun v V1 l1 ⟨r1, hv, h1⟩ => ⟨r1, hv, (b03 k).mono fun v V2 l2 ⟨r2, hv, h2⟩ => ⟨r2, hv, ?_⟩⟩)
 refine (G04 (h1.le l2) h2 (z00 h) (z00 k) (by omega)).mono fun v V3 l3 ⟨r3, hv, h3⟩ => ⟨r3, hv, ?_⟩
 exact (x02 h3 (I05 (z00 h) (z00 k)) (by omega)).mono fun v V4 _ hv => ⟨_, hv, rfl⟩
def Sk.square (s : Sk) : Sk := s.set.square.span
theorem E0d {V : View} {s : Sk} (h : s.ok) : a00 prog O0h #[s.v.val] V fun v _ => v = (Sk.square s).v.val := by
 refine J0f s.v V _ ((b03 h).mono fun v V1 l1 ⟨r1, hv, h1⟩ => ⟨r1, hv, ?_⟩)
 refine (l0f h1 (z00 h) (by omega) (by omega)).mono fun v V2 l2 ⟨r2, hv, h2⟩ => ⟨r2, hv, ?_⟩
 exact (x02 h2 (k0f (z00 h) (by omega)) (by omega)).mono fun v V3 _ hv => ⟨_, hv, rfl⟩
def Bk.norm (b : Bk) : Sk := (b.re.set.square.add b.im.set.square).span
theorem BqAt.ok2 {V : View} {b : BdV} {e : Eb} (h : BqAt V b e) : e.ok := h.ok
theorem B0c {V : View} {s : Sk} (h : s.ok) : a00 prog s0a #[s.v.val] V fun v V' => ∃ a b : BdV, v = .tuple #[a.val, b.val] ∧ BqAt V' a s.set.square.lo ∧ BqAt V' b s.set.square.hi := by
 rw [M0s (S0e _) (S0e _)]
 have a1 := o04 h.lo; have a2 := o04 h.hi
 have s1 := F04 (endE s.lo) (endE s.lo); have s2 := F04 (endE s.hi) (endE s.hi)
 have p : ∀ x ∈ [(endE s.lo).mul (endE s.lo), (endE s.hi).mul (endE s.hi)], x.num.sz ≤ 2 ^ 38 := by intro x hx; simp at hx; rcases hx with rfl | rfl <;> omega
 have zq := U0e h
 refine K09 s.v V _ ((j00 h.lo).mono fun v V1 l1 ⟨r1, hv, h1⟩ => ⟨r1, hv, (j00 h.lo).mono fun v V2 l2 ⟨r2, hv, h2⟩ => ⟨r2, hv, ?_⟩⟩)
 refine (n03 (h1.le l2) h2 (by omega) (by omega)).mono fun v V3 l3 ⟨r3, hv, h3⟩ => ⟨r3, hv, ?_⟩
 refine (j00 h.hi).mono fun v V4 l4 ⟨r4, hv, h4⟩ => ⟨r4, hv, (j00 h.hi).mono fun v V5 l5 ⟨r5, hv, h5⟩ => ⟨r5, hv, ?_⟩⟩
 refine (n03 (h4.le l5) h5 (by omega) (by omega)).mono fun v V6 l6 ⟨r6, hv, h6⟩ => ⟨r6, hv, fun b1 V7 l7 _ hb1 => ?_⟩
 have hq := N0v (h3.le (View.le_trans l4 (View.le_trans l5 (View.le_trans l6 l7)))) (h6.le l7) hb1
 refine (L06 hq (by simp) (by simp) p).mono fun v V8 l8 ⟨r7, hv, h7⟩ => ⟨r7, hv, ?_⟩
 have lo0 : ((FloatKind.f64.format.order (Y00 s.lo) 0 == some .lt) || (FloatKind.f64.format.order (Y00 s.lo) 0 == some .eq)) = decide (s.lo ≤ 0) := leK h.lo D0a
 have hi0 : ((FloatKind.f64.format.order (Y00 s.hi) 0 == some .gt) || (FloatKind.f64.format.order (Y00 s.hi) 0 == some .eq)) = decide (0 ≤ s.hi) := geK h.hi D0a
 have gr : ∀ {V9 : View}, View.le V8 V9 → a00 prog E06 #[(Sl.mk (some (Addr.mk b1 0 none)) 2 2).v] V9 fun v V' => ∃ b : BdV, v = b.val ∧ BqAt V' b (Eb.pick 1 [(endE s.lo).mul (endE s.lo), (endE s.hi).mul (endE s.hi)]) :=
  fun l9 => d05 (hq.le (View.le_trans l8 l9)) (by simp) (by simp) p
 refine ⟨fun c1 => ⟨fun c2 => ?_, fun c2 => ?_⟩, fun c1 => ?_⟩
 · have z : s.set.zero = true := by rw [zq]; have c1 := lo0 ▸ c1; have c2 := hi0 ▸ c2; rw [c1, c2]; rfl
   refine (J02 (by omega) (by omega)).mono fun v V9 l9 ⟨r8, hv, h8⟩ => ⟨r8, hv, ?_⟩
   rw [Rat.intCast_zero] at h8
   refine (p03 h8).mono fun v V10 l10 ⟨r9, hv, h9⟩ => ⟨r9, hv, (gr (View.le_trans l9 l10)).mono fun v V11 l11 ⟨r10, hv, h10⟩ => ⟨r10, hv, _, _, rfl, ?_, h10⟩⟩
   show BqAt V11 r9 (if s.set.zero = true then Eb.fin 0 else _)
   rw [if_pos z]; exact h9.le l11
 · have z : s.set.zero = false := by rw [zq]; have c2 := hi0 ▸ c2; rw [c2, Bool.and_false]
   refine (gr (View.le_refl _)).mono fun v V12 l12 ⟨r11, hv, h11⟩ => ⟨r11, hv, _, _, rfl, ?_, h11⟩
   show BqAt V12 r7 (if s.set.zero = true then Eb.fin 0 else _)
   rw [if_neg (by rw [z]; decide)]; exact h7.le l12
 · have z : s.set.zero = false := by rw [zq]; have c1 := lo0 ▸ c1; rw [c1, Bool.false_and]
   refine (gr (View.le_refl _)).mono fun v V13 l13 ⟨r12, hv, h12⟩ => ⟨r12, hv, _, _, rfl, ?_, h12⟩
   show BqAt V13 r7 (if s.set.zero = true then Eb.fin 0 else _)
   rw [if_neg (by rw [z]; decide)]; exact h7.le l13
theorem d09 {V : View} {s : Sk} (h : s.ok) : a00 prog X0a #[s.v.val] V fun v _ => v = (Sk.square s).v.val := by
 have z := k0f (z00 h) (by omega)
 have z1 := z.1; have z2 := z.2
 refine u0a s.v V _ ((B0c h).mono fun v V1 l1 ⟨a, b, hv, ha, hb⟩ => ⟨a, b, hv, ?_⟩)
 exact (T03 ha hb (by omega) (by omega)).mono fun v V2 _ hv => ⟨_, hv, rfl⟩

theorem f0d {V : View} {x : NumV} {z : Cq} (h : QAt V x z) (hz : z.sz ≤ 2 ^ 40) : a00 prog N0r #[x.val] V fun v V' => ∃ r : NumV, v = r.val ∧ QAt V' r ⟨z.re, 0⟩ := by
 have zA := Cq.wA hz; have zB := Cq.wB hz; have zD := Cq.wD hz
 exact E0q x V _ ((F01 h.re (H00.zero V) h.under (c0o z.canon.rep) (by omega) (by rw [Int.natAbs_zero, F03]; omega) (by omega)).mono fun v V' _ ⟨r, hv, hq⟩ => ⟨r, hv, r, rfl, hq⟩)

theorem l0a {V : View} {x : NumV} {z : Cq} (h : QAt V x z) : a00 prog a0n #[x.val] V fun v _ => v = .bool (decide (z = Cq.zero)) := by
 have a := h.re.2.len_zero; have b := h.im.2.len_zero
 have zA := A_zero (z := z); have zB := B_zero (z := z)
 have key : z = Cq.zero ↔ x.re.mag.len = 0 ∧ x.im.mag.len = 0 := by
  rw [a, b, Int.natAbs_eq_zero, Int.natAbs_eq_zero, zA, zB]
  exact ⟨fun e => by rw [e]; exact ⟨rfl, rfl⟩, fun ⟨h1, h2⟩ => Cq.ext' h1 h2⟩
 refine H0k x V _ ⟨fun hc => ?_, fun hc => ?_⟩
 · have hc : x.re.mag.len = 0 := by have : (x.re.mag.len : Int) = 0 := by simpa using hc
                                    omega
   congr 1
   by_cases d : x.im.mag.len = 0
   · rw [decide_eq_true (key.2 ⟨hc, d⟩), d]; rfl
   · rw [decide_eq_false (fun e => d (key.1 e).2)]; simpa using d
 · have hc : ¬ x.re.mag.len = 0 := by have : ¬ (x.re.mag.len : Int) = 0 := by simpa using hc
                                      omega
   rw [decide_eq_false (fun e => hc (key.1 e).1)]
theorem d0p (a : Int) (n : Nat) : ((a * (n : Int) : Int) : Rat) = (a : Rat) * (n : Rat) := by rw [Rat.intCast_mul]; rfl
theorem A0j {V : View} {x y : NumV} {z w : Cq} (hx : QAt V x z) (hy : QAt V y w) (hz : z.sz ≤ 2 ^ 36) (hw : w.sz ≤ 2 ^ 36) :
 a00 prog b0q #[x.val, y.val] V fun v V' => ∃ (r : NumV) (e : Int), v = .tuple #[r.val, .int .i64 e] ∧ QAt V' r (z.div w) ∧ (w ≠ Cq.zero → e = 0) := by
 have cz := B0h w
 refine l0n x y V _ ((l0a hy).mono fun v V1 l1 hv => ⟨_, hv, fun hc => ?_, fun hc => ?_⟩)
 · have hc : w = Cq.zero := by simpa using hc
   refine (J02 (by omega) (by omega)).mono fun v V2 _ ⟨r, hv, hr⟩ => ⟨r, hv, _, _, rfl, ?_, fun h => absurd hc h⟩
   have e : z.div w = ⟨((0 : Int) : Rat), 0⟩ := by
    rw [hc, Rat.intCast_zero]
    refine Cq.ext' ?_ ?_
    · show (z.re * 0 + z.im * 0) / (0 * 0 + 0 * 0) = 0
      have : z.re * 0 + z.im * 0 = (0 : Rat) := by grind
      rw [this, Rat.div_def]; exact Rat.zero_mul _
    · show (z.im * 0 - z.re * 0) / (0 * 0 + 0 * 0) = 0
      have : z.im * 0 - z.re * 0 = (0 : Rat) := by grind
      rw [this, Rat.div_def]; exact Rat.zero_mul _
   rw [e]; exact hr
 have hc : w ≠ Cq.zero := by simpa using hc
 replace hx := hx.le l1; replace hy := hy.le l1
 have norm : a00 prog x0e #[y.val] V1 fun v V' => ∃ r : NumV, v = r.val ∧ QAt V' r (w * w.conj) :=
  M0c y V1 _ ((j07 hy).mono fun v V2 l2 ⟨r, hv, hr⟩ => ⟨r, hv, (Z02 (hy.le l2) hr (by omega) (by omega)).mono fun v V3 _ ⟨q, hv, hq⟩ => ⟨q, hv, q, rfl, hq⟩⟩)
 refine norm.mono fun v V3 l3 ⟨n, hv, hn⟩ => ⟨n, hv, (j07 (hy.le l3)).mono fun v V4 l4 ⟨c, hv, hcj⟩ => ⟨c, hv, ?_⟩⟩
 refine (Z02 (hx.le (View.le_trans l3 l4)) hcj (by omega) (by omega)).mono fun v V5 l5 ⟨t, hv, ht⟩ => ⟨t, hv, ?_⟩
 replace hn := hn.le (View.le_trans l4 l5)
 have ns := T01 w w.conj
 have ts := T01 z w.conj
 have n40 : (w * w.conj).sz ≤ 2 ^ 40 := by omega
 have t40 : (z * w.conj).sz ≤ 2 ^ 40 := by omega
 have nA := Cq.wA n40; have nD := Cq.wD n40; have tA := Cq.wA t40; have tB := Cq.wB t40; have tD := Cq.wD t40
 have hD := (w * w.conj).D_pos
 refine (i01 ht.re (H00.ofNat hn.under) (by omega) (by rw [Int.natAbs_natCast]; omega)).mono fun v V6 l6 ⟨r6, hv, h6⟩ => ⟨r6, hv, ?_⟩
 refine (i01 (ht.im.le l6) (H00.ofNat (hn.under.le l6)) (by omega) (by rw [Int.natAbs_natCast]; omega)).mono fun v V7 l7 ⟨r7, hv, h7⟩ => ⟨r7, hv, ?_⟩
 have L := View.le_trans l6 l7
 refine (u04 (ht.under.le L) (hn.re.2.le L) (by omega) (by omega)).mono fun v V8 l8 ⟨r8, hv, h8⟩ => ⟨r8, hv, ?_⟩
 have p1 := U05 (z * w.conj).D (w * w.conj).A.natAbs
 have q1 := j02 tA (b := ((w * w.conj).D : Int)) (by rw [Int.natAbs_natCast]; exact nD)
 have q2 := j02 tB (b := ((w * w.conj).D : Int)) (by rw [Int.natAbs_natCast]; exact nD)
 -- the norm is a number above 0
 have nre : (w * w.conj).re = w.norm := by show w.re * w.re - w.im * -w.im = w.re * w.re + w.im * w.im; grind
 have npos : 0 < w.norm := by
  have h1 : 0 ≤ w.re * w.re := J06 _
  have h2 : 0 ≤ w.im * w.im := J06 _
  refine Rat.not_le.1 fun g => hc ?_
  have g : w.re * w.re + w.im * w.im ≤ 0 := g
  have e1 : w.re * w.re = 0 := by grind
  have e2 : w.im * w.im = 0 := by grind
  exact Cq.ext' (by rcases Rat.mul_eq_zero.1 e1 with h | h <;> exact h) (by rcases Rat.mul_eq_zero.1 e2 with h | h <;> exact h)
 have nrep := (w * w.conj).canon.rep
 have hA : 0 < (w * w.conj).A := by
  refine Int.not_le.1 fun g => ?_
  have e := nrep.re
  rw [nre] at e
  have : ((w * w.conj).A : Rat) / ((w * w.conj).D : Rat) ≤ 0 := by
   rw [Rat.div_def]
   have dp : (0 : Rat) < ((w * w.conj).D : Rat) := by have : 0 < (w * w.conj).D := by omega
                                                      exact_mod_cast this
   have ip : (0 : Rat) ≤ ((w * w.conj).D : Rat)⁻¹ := Rat.le_of_lt (Rat.inv_pos.2 dp)
   have gq : ((w * w.conj).A : Rat) ≤ 0 := by exact_mod_cast g
   have := Rat.mul_le_mul_of_nonneg_right gq ip
   rw [Rat.zero_mul] at this; exact this
  grind
 have R : Rep (z.div w) ((z * w.conj).A * ((w * w.conj).D : Int)) ((z * w.conj).B * ((w * w.conj).D : Int)) ((z * w.conj).D * (w * w.conj).A.natAbs) := by
  have trep := (z * w.conj).canon.rep
  have tre : (z * w.conj).re = z.re * w.re + z.im * w.im := by show z.re * w.re - z.im * -w.im = _; grind
  have tim : (z * w.conj).im = z.im * w.re - z.re * w.im := by show z.re * -w.im + z.im * w.re = _; grind
  have e1 := trep.re; have e2 := trep.im; have e3 := nrep.re
  rw [tre] at e1; rw [tim] at e2; rw [nre] at e3
  have dn : ((z * w.conj).D : Rat) ≠ 0 := W00 (z * w.conj).D_pos
  have dm : ((w * w.conj).D : Rat) ≠ 0 := W00 hD
  have an : (((w * w.conj).A.natAbs : Nat) : Rat) = ((w * w.conj).A : Rat) := by
   have : (((w * w.conj).A.natAbs : Nat) : Int) = (w * w.conj).A := by omega
   exact congrArg (fun x : Int => (x : Rat)) this
  have am : ((w * w.conj).A : Rat) ≠ 0 := by
   intro g
   have : (w * w.conj).A = 0 := by exact_mod_cast g
   omega
  refine ⟨?_, ?_, ?_⟩
  · exact Nat.pos_iff_ne_zero.1 (Nat.mul_pos (by have := (z * w.conj).D_pos; omega) (by omega))
  · show (z.re * w.re + z.im * w.im) / w.norm = _
    rw [e1, e3, d0p (z * w.conj).A, Rat.natCast_mul, an]; grind
  · show (z.im * w.re - z.re * w.im) / w.norm = _
    rw [e2, e3, d0p (z * w.conj).B, Rat.natCast_mul, an]; grind
 refine (F01 (h6.le (View.le_trans l7 l8)) (h7.le l8) h8 R (by omega) (by omega) (by omega)).mono fun v V9 _ ⟨r, hv, hr⟩ => ⟨r, hv, _, _, rfl, hr, fun _ => rfl⟩
def d0r (V : View) (n cap : Nat) (o : List Value) (es : List Eb) : Prop := ∃ l, e06 6 n cap o l ∧ W02 6 bqC V l es ∧ n = es.length
theorem d0r.le {V V' : View} (hle : V.le V') {n cap : Nat} {o : List Value} {es : List Eb} (h : d0r V n cap o es) : d0r V' n cap o es := by
 obtain ⟨l, h1, h2, h3⟩ := h; exact ⟨l, h1, h2.imp (bqC.le hle), h3⟩
theorem d0r.push {V1 : View} {n cap : Nat} {o : List Value} {es : List Eb} {r : BdV} {e : Eb} {b : Nat} {R : Nat → Nat → List Value → Prop} (h : d0r V1 n cap o es) (hr : BqAt V1 r e) (hl : es.length ≤ 2 ^ 20)
 (hb : V1 b = some #[.int .i64 r.inf, .bool r.x.re.neg, r.x.re.mag.v, .bool r.x.im.neg, r.x.im.mag.v, r.x.under.v]) (hR : ∀ c l3, d0r V1 (n + 1) c l3 (es ++ [e]) → R (n + 1) c l3) :
 ∃ (l1 l2 : List Value), e06 6 n cap o l1 ∧ View.has V1 (some (Addr.mk b 0 none)) l2 ∧ List.length l2 = 1 * 6 ∧ (∀ v ∈ l2, Value.oneCell' v = true) ∧ n + 1 ≤ maxLen ∧ (n + 1) * 96 ≤ 140737488355328 ∧
  ∀ (c1 : Nat) (l3 : List Value), e06 6 (n + 1) c1 l3 (l1 ++ l2) → R (n + 1) c1 l3 := by
 obtain ⟨l, h1, h2, h3⟩ := h
 refine ⟨l, _, h1, s0t (l := [.int .i64 r.inf, .bool r.x.re.neg, r.x.re.mag.v, .bool r.x.im.neg, r.x.im.mag.v, r.x.under.v]) hb, rfl, x0h r, Nat.le_trans (show n + 1 ≤ 2 ^ 20 + 1 by omega) (by decide), by omega, fun c1 l3 hl3 => hR _ _ ⟨_, hl3, ?_, by simp; omega⟩⟩
 exact W02.append h2 (W02.one rfl ⟨r, rfl, hr⟩)
def Bk.div (b c : Bk) : Bk := if c.invE = 0 then b.mul c.inv else Bk.nil

theorem p08 {V : View} {x y : WhV} {a b : Int} (hx : H00 V x a) (hy : H00 V y b) (ha : wn a.natAbs ≤ 2 ^ 43) (hb : wn b.natAbs ≤ 2 ^ 43) :
 a00 prog g0i #[x.val, y.val] V fun v _ => v = .int .i64 (cmpZ a b) := by
 have h1 := hx.1
 have h2 := hy.1
 refine k0g x y V _ ⟨fun h => ⟨fun hn => ?_, fun hn => ?_⟩, fun h => ⟨fun hn => ?_, fun hn => ?_⟩⟩
 · rw [h1] at hn h; rw [h2] at h
   have ha := of_decide_eq_true hn
   have hb : ¬ b < 0 := fun c => by rw [decide_eq_true ha, decide_eq_true c] at h; simp at h
   rw [L0e (by omega)]
 · rw [h1] at hn h; rw [h2] at h
   have ha := of_decide_eq_false hn
   have hb : b < 0 := Classical.byContradiction fun c => by rw [decide_eq_false ha, decide_eq_false c] at h; simp at h
   rw [M0e (by omega)]
 · rw [h1] at hn h; rw [h2] at h
   have ha' := of_decide_eq_true hn
   have hb' : b < 0 := Classical.byContradiction fun c => by rw [decide_eq_true ha', decide_eq_false c] at h; simp at h
   refine (T02 hy.2 hx.2 (by omega)).mono fun v V1 _ hv => ⟨_, hv, ?_⟩
   congr 1; unfold cmpZ
   split
   · rw [if_pos (by omega)]
   · split
     · rw [if_neg (by omega), if_pos (by omega)]
     · rw [if_neg (by omega), if_neg (by omega)]
 · rw [h1] at hn h; rw [h2] at h
   have ha' := of_decide_eq_false hn
   have hb' : ¬ b < 0 := fun c => by rw [decide_eq_false ha', decide_eq_true c] at h; simp at h
   refine (T02 hx.2 hy.2 (by omega)).mono fun v V1 _ hv => ⟨_, hv, ?_⟩
   congr 1; unfold cmpZ
   split
   · rw [if_pos (by omega)]
   · split
     · rw [if_neg (by omega), if_pos (by omega)]
     · rw [if_neg (by omega), if_neg (by omega)]
theorem s0g {V : View} {x y : NumV} {z w : Cq} (hx : QAt V x z) (hy : QAt V y w) (hz : z.sz ≤ 2 ^ 40) (hw : w.sz ≤ 2 ^ 40) :
 a00 prog e0n #[x.val, y.val] V fun v _ => v = .bool (decide (z = w)) := by
 have zA := Cq.wA hz; have zB := Cq.wB hz; have zD := Cq.wD hz
 have wA := Cq.wA hw; have wB := Cq.wB hw; have wD := Cq.wD hw
 refine i0l x y V _ ((p08 hx.re hy.re (by omega) (by omega)).mono fun v V1 l1 hv => ⟨_, hv, fun h1 => ?_, fun h1 => ?_⟩)
 · have h1 : z.A = w.A := x0b.1 (by simpa using h1)
   refine (p08 (hx.im.le l1) (hy.im.le l1) (by omega) (by omega)).mono fun v V2 l2 hv => ⟨_, hv, fun h2 => ?_, fun h2 => ?_⟩
   · have h2 : z.B = w.B := x0b.1 (by simpa using h2)
     refine (T02 (hx.under.le (View.le_trans l1 l2)) (hy.under.le (View.le_trans l1 l2)) (by omega)).mono fun v V3 l3 hv => ⟨_, hv, ?_⟩
     congr 1
     by_cases e : z.D = w.D
     · have : z = w := j0p h1 h2 e
       subst this; simp
     · have : z ≠ w := by rintro rfl; exact e rfl
       simp only [this, decide_false]
       rw [if_neg e]
       by_cases h : z.D < w.D
       · rw [if_pos h]; rfl
       · rw [if_neg h]; rfl
   · have h2 : ¬ z.B = w.B := fun e => by rw [x0b.2 e] at h2; simp at h2
     have : z ≠ w := by rintro rfl; exact h2 rfl
     simp [this]
 · have h1 : ¬ z.A = w.A := fun e => by rw [x0b.2 e] at h1; simp at h1
   have : z ≠ w := by rintro rfl; exact h1 rfl
   simp [this]

theorem n05 {V : View} {s : Sl} {a : Nat} (hs : e00 V s a) (ha : bl a ≤ 2 ^ 40) :
 a00 prog F0f #[s.v] V fun v V' => ∃ (r : Sl) (k : Nat), v = r.v ∧ e00 V' r k ∧ F07 k a := by
 have wa : wn a ≤ 2 ^ 40 := I04 (by omega)
 have hl := hs.len_zero
 refine C0e s V _ (fun _ x V' => ∃ k, e00 V' x.t3 k ∧ k ≠ 0 ∧ a < (k + 1) * (k + 1) ∧ wn k ≤ 2 ^ 41) (fun _ x V' => Q0c V' x.t3) ⟨fun hc => ?_, fun hc b1 V1 l1 _ hb => ?_⟩
 · have hs0 : (s.len : Int) = 0 := by simpa using hc
   have hc : a = 0 := hl.1 (by omega)
   exact ⟨_, 0, rfl, e00.zero V, by rw [hc]; exact ⟨Nat.le_refl _, by omega⟩⟩
 have a0 : a ≠ 0 := fun e => by have := hl.2 e; rw [this] at hc; exact absurd hc (by decide)
 refine (l01 (hs.le l1) (by omega)).mono fun v V2 l2 hv => ⟨_, hv, ?_⟩
 obtain ⟨m, hm⟩ : ∃ m, m = (bl a + 1) / 2 := ⟨_, rfl⟩
 have w : i64.wrap (Int.tdiv (i64.wrap (((bl a : Nat) : Int) + 1)) 2) = (m : Int) := by
  have e : ((bl a : Nat) : Int) + 1 = ((bl a + 1 : Nat) : Int) := by omega
  rw [e, i64w (n := ((bl a + 1 : Nat) : Int)) (by omega) (by omega)]
  have e3 : Int.tdiv ((bl a + 1 : Nat) : Int) 2 = (((bl a + 1) / 2 : Nat) : Int) := (Int.ofNat_tdiv (bl a + 1) 2).symm
  rw [e3, ← hm, i64w (by omega) (by omega)]
 rw [w]
 refine (A01 (e00.lit (n := 1) (l2 _ _ hb) (by omega) (by omega)) (Nat.le_trans b0d (by decide)) (by omega)).mono fun v V3 l3 ⟨r2, hv, h2⟩ => ⟨r2, hv, ?_⟩
 rw [Nat.one_mul] at h2
 have pm : 0 < 2 ^ m := Nat.pow_pos (by omega)
 refine ⟨⟨2 ^ m, h2, by omega, ?_, ?_⟩, ?_⟩
 · have h1 := B0a a
   have h3 : 2 ^ bl a ≤ 2 ^ (m + m) := Nat.pow_le_pow_right (by omega) (by omega)
   rw [Nat.pow_add] at h3
   have : (2 ^ m + 1) * (2 ^ m + 1) = 2 ^ m * 2 ^ m + (2 * 2 ^ m + 1) := by grind
   omega
 · have := Z01 m
   exact I04 (by omega)
 rintro ⟨t⟩ V4 l4 ⟨k, hk, k0, hk2, wk⟩
 dsimp only at hk ⊢
 have L4 := View.le_trans l1 (View.le_trans l2 (View.le_trans l3 l4))
 refine (S01 (hs.le L4) hk (by omega) k0).mono fun v V5 l5 ⟨q, r, hv, hq, _⟩ => ⟨q, r, hv, ?_⟩
 have wq : wn (a / k) ≤ wn a := X04 (Nat.div_le_self a k)
 refine (i06 (hk.le l5) hq (by omega) (by omega)).mono fun v V6 l6 ⟨t6, hv, h6⟩ => ⟨t6, hv, ?_⟩
 have w6 := k0l k (a / k)
 refine (z03 (n := 1) h6 (by omega) (by omega)).mono fun v V7 l7 ⟨t7, hv, h7⟩ => ⟨t7, hv, ?_⟩
 have e2 : (k + a / k) / 2 ^ 1 = (k + a / k) / 2 := by rfl
 rw [e2] at h7
 have w7 : wn ((k + a / k) / 2) ≤ wn (k + a / k) := X04 (Nat.div_le_self _ _)
 have L7 := View.le_trans l5 (View.le_trans l6 l7)
 have hk7 := hk.le L7
 refine (T02 h7 hk7 (by omega)).mono fun v V8 l8 hv => ⟨_, hv, fun hc => ?_, fun hc => ?_⟩
 · have hc : ¬ (k + a / k) / 2 < k := by
     intro c; rw [if_pos c] at hc; exact absurd hc (by decide)
   refine ⟨_, k, rfl, hk7.le l8, ⟨?_, hk2⟩⟩
   have : k ≤ a / k := by omega
   exact (Nat.le_div_iff_mul_le (by omega)).1 this
 · have hc : (k + a / k) / 2 < k := by
     refine Nat.not_le.1 fun c => ?_
     rw [if_neg (by omega)] at hc
     split at hc <;> exact absurd hc (by decide)
   refine ⟨⟨_, h7.le l8, ?_, H0w (q := a / k) (x := k) ?_ (by omega), Nat.le_trans (X04 (Nat.le_of_lt hc)) wk⟩, ?_⟩
   · intro e
     by_cases c1 : k = 1
     · rw [c1, Nat.div_one] at e; omega
     · obtain ⟨q, hq'⟩ : ∃ q, q = a / k := ⟨_, rfl⟩
       rw [← hq'] at e; omega
   · have := Nat.div_add_mod a k; have := Nat.mod_lt a (show 0 < k by omega)
     rw [Nat.mul_add]; omega
   · rw [W05 (h7.le l8), W05 hk]; exact hc
theorem m0f {k a : Nat} (h : F07 k a) : bl k ≤ bl a := I06 h.le
theorem re_A {q : Rat} (h : 0 ≤ q) : 0 ≤ (⟨q, 0⟩ : Cq).A := by
 have r := (⟨q, 0⟩ : Cq).canon.rep
 have e : q = ((⟨q, 0⟩ : Cq).A : Rat) / ((⟨q, 0⟩ : Cq).D : Rat) := r.re
 have m := Rat.div_mul_cancel (a := ((⟨q, 0⟩ : Cq).A : Rat)) (W00 r.pos)
 rw [← e] at m
 have : (0 : Rat) ≤ ((⟨q, 0⟩ : Cq).A : Rat) := by
  rw [← m]; exact Rat.mul_nonneg h (by exact_mod_cast Nat.zero_le _)
 exact_mod_cast this
theorem m07 {V : View} {x : NumV} {q : Rat} (hx : QAt V x ⟨q, 0⟩) (h0 : 0 ≤ q) (hz : (⟨q, 0⟩ : Cq).sz ≤ 2 ^ 36) :
 a00 prog c0n #[x.val] V fun v V' => ∃ (r : NumV) (b : Bool) (z : Rat), v = .tuple #[r.val, .bool b] ∧ QAt V' r ⟨z, 0⟩ ∧ 0 ≤ z ∧ (b = true → z * z = q) ∧ (∀ p, 0 ≤ p → p * p = q → b = true ∧ z = p) := by
 have zA := Cq.szA (⟨q, 0⟩ : Cq); have zD := Cq.szD (⟨q, 0⟩ : Cq)
 obtain ⟨A, hA⟩ : ∃ A : Nat, (⟨q, 0⟩ : Cq).A = A := ⟨(⟨q, 0⟩ : Cq).A.toNat, by have := re_A h0; omega⟩
 have dne := (⟨q, 0⟩ : Cq).D_pos
 obtain ⟨D, hD⟩ : ∃ D : Nat, (⟨q, 0⟩ : Cq).D = D := ⟨_, rfl⟩
 have hm := hx.re.2
 have hu := hx.under
 rw [hA, Int.natAbs_natCast] at hm
 rw [hA, Int.natAbs_natCast] at zA
 rw [hD] at hu zD dne
 refine D0k x V _ ((n05 hm (by omega)).mono fun v V1 l1 ⟨r1, k, hv, h1, hk⟩ => ⟨r1, hv, ?_⟩)
 refine (n05 (hu.le l1) (by omega)).mono fun v V2 l2 ⟨r2, j, hv, h2, hj⟩ => ⟨r2, hv, ?_⟩
 have kb := m0f hk; have jb := m0f hj
 have j0 : j ≠ 0 := fun e => by have := hj.2; rw [e] at this; omega
 obtain ⟨z, hz'⟩ : ∃ z : Rat, z = (k : Rat) / (j : Rat) := ⟨_, rfl⟩
 have R : Rep ⟨z, 0⟩ (k : Int) 0 j := ⟨j0, hz', a09 _⟩
 have hi : H00 V2 (WhV.mk false r1) (k : Int) := ⟨by simp, by rw [Int.natAbs_natCast]; exact h1.le l2⟩
 have zs : (⟨z, 0⟩ : Cq).sz ≤ 2 ^ 36 := R.sz (by rw [Int.natAbs_natCast]; omega) (by rw [Int.natAbs_zero, f06]; omega) (by omega)
 have z0 : 0 ≤ z := by
  rw [hz', Rat.div_def]
  refine Rat.mul_nonneg (by exact_mod_cast Nat.zero_le _) (Rat.le_of_lt (Rat.inv_pos.2 (by exact_mod_cast (by omega : 0 < j))))
 refine (F01 hi (H00.zero V2) h2 R (by rw [Int.natAbs_natCast]; exact I04 (by omega)) (by rw [Int.natAbs_zero, F03]; omega) (I04 (by omega))).mono fun v V3 l3 ⟨r3, hv, h3⟩ => ⟨r3, hv, ?_⟩
 refine (Z02 h3 h3 (by omega) (by omega)).mono fun v V4 l4 ⟨r4, hv, h4⟩ => ⟨r4, hv, ?_⟩
 have ms := T01 (⟨z, 0⟩ : Cq) ⟨z, 0⟩
 have L4 := View.le_trans l1 (View.le_trans l2 (View.le_trans l3 l4))
 refine (s0g h4 (hx.le L4) (by omega) (by omega)).mono fun v V5 l5 hv => ⟨_, hv, ?_⟩
 refine ⟨r3, _, z, rfl, h3.le (View.le_trans l4 l5), z0, fun hb => ?_, fun p p0 hp => ?_⟩
 · have hb := of_decide_eq_true hb
   rw [y04] at hb
   exact congrArg Cq.re hb
 · obtain ⟨e1, e2⟩ := Q0u (p := p)
   have pr := (⟨p, 0⟩ : Cq).canon.rep
   rw [hp, hA] at e1
   rw [hp, hD] at e2
   obtain ⟨P, hP⟩ : ∃ P : Nat, (⟨p, 0⟩ : Cq).A = P := ⟨(⟨p, 0⟩ : Cq).A.toNat, by have := re_A p0; omega⟩
   rw [hP] at e1
   have e1 : A = P * P := by exact_mod_cast e1
   have kk : k = P := hk.unique (by rw [e1]; exact e0m P)
   have jj : j = (⟨p, 0⟩ : Cq).D := hj.unique (by rw [e2]; exact e0m _)
   have ez : z = p := by
    have : p = ((⟨p, 0⟩ : Cq).A : Rat) / ((⟨p, 0⟩ : Cq).D : Rat) := pr.re
    rw [hz', this, kk, jj, hP]; rfl
   refine ⟨decide_eq_true ?_, ez⟩
   rw [y04, ez, hp]
theorem t0g {V : View} {y : NumV} {w : Cq} (hy : QAt V y w) (hw : w.sz ≤ 2 ^ 38) : a00 prog x0e #[y.val] V fun v V' => ∃ r : NumV, v = r.val ∧ QAt V' r (w * w.conj) := by
 have cz := B0h w
 exact M0c y V _ ((j07 hy).mono fun v V2 l2 ⟨r, hv, hr⟩ => ⟨r, hv, (Z02 (hy.le l2) hr (by omega) (by omega)).mono fun v V3 _ ⟨q, hv, hq⟩ => ⟨q, hv, q, rfl, hq⟩⟩)
theorem e0p : Rep (⟨1 / 2, 0⟩ : Cq) 1 0 2 := ⟨by omega, by show (1 : Rat) / 2 = _; decide +kernel, a09 _⟩
theorem a0v : (⟨0, 1⟩ : Cq).A = 0 ∧ (⟨0, 1⟩ : Cq).B = 1 ∧ (⟨0, 1⟩ : Cq).D = 1 :=
 t0b.eqs ⟨⟨by omega, by show (0 : Rat) = _; decide +kernel, by show (1 : Rat) = _; decide +kernel⟩, by decide⟩
theorem y0t (q : Rat) : (⟨q, 0⟩ : Cq).conj = ⟨q, 0⟩ := Cq.ext' rfl (by show -(0 : Rat) = 0; grind)
theorem z0u : (⟨1 / 2, 0⟩ : Cq).sz ≤ 2 := e0p.sz (by decide) (by decide) (by decide)
theorem u0g {V : View} {x : NumV} {q : Rat} (hx : QAt V x ⟨q, 0⟩) (h0 : 0 ≤ q) (hz : (⟨q, 0⟩ : Cq).sz ≤ 2 ^ 32) :
 a00 prog W0m #[x.val] V fun v V' => ∃ (r : NumV) (b : Bool), v = .tuple #[r.val, .bool b] ∧ (b = true → ∃ z : Rat, QAt V' r ⟨z, 0⟩ ∧ 0 ≤ z ∧ z * z = q) ∧ (b = false → ∀ p, 0 ≤ p → p * p ≠ q) := by
 have whole : ∀ {V : View}, a00 prog N05 #[.int .i64 0] V fun v V' => ∃ r : NumV, v = r.val ∧ QAt V' r ⟨((0 : Int) : Rat), 0⟩ := J02 (by omega) (by omega)
 refine E0k x V _ ((l0a hx).mono fun v V1 l1 hv => ⟨_, hv, fun hc => ?_, fun hc => ?_⟩)
 · have hc : q = 0 := congrArg Cq.re (of_decide_eq_true hc)
   refine ⟨x, true, rfl, fun _ => ⟨q, hx.le l1, h0, by rw [hc]; exact Rat.zero_mul _⟩, fun e => absurd e (by decide)⟩
 replace hx := hx.le l1
 have m1 := T01 (⟨q, 0⟩ : Cq) ⟨q, 0⟩
 refine (t0g hx (by omega)).mono fun v V2 l2 ⟨r2, hv, h2⟩ => ⟨r2, hv, ?_⟩
 rw [y0t, y04] at h2
 rw [y04] at m1
 refine (m07 h2 (Rat.mul_nonneg h0 h0) (by omega)).mono fun v V3 l3 ⟨r3, b3, z3, hv, h3, _, _, k3⟩ => ⟨r3, b3, hv, ?_⟩
 obtain ⟨e1, e2⟩ := k3 q h0 rfl
 subst e1; subst e2
 refine ⟨fun hc => absurd hc (by decide), fun _ => ?_⟩
 refine (m03 (n := 1) (by omega) (by omega)).mono fun v V5 l5 ⟨r6, hv, h6⟩ => ⟨r6, hv, fun b1 V6 l6 _ hb1 => ?_⟩
 have L6 := View.le_trans l2 (View.le_trans l3 (View.le_trans l5 l6))
 refine (F01 (h6.le l6) (H00.zero V6) (e00.lit (n := 2) hb1 (by omega) (by omega)) e0p b0d (by rw [Int.natAbs_zero, F03]; omega) (wn64 (by omega))).mono fun v V7 l7 ⟨r7, hv, h7⟩ => ⟨r7, hv, ?_⟩
 refine (f0d (hx.le (View.le_trans L6 l7)) (by omega)).mono fun v V8 l8 ⟨r8, hv, h8⟩ => ⟨r8, hv, ?_⟩
 have a1 := q04 (⟨z3, 0⟩ : Cq) ⟨z3, 0⟩
 have hs := z0u
 have a2 := T01 ((⟨z3, 0⟩ : Cq) + ⟨z3, 0⟩) ⟨1 / 2, 0⟩
 refine (Z04 h8 (h3.le (View.le_trans l5 (View.le_trans l6 (View.le_trans l7 l8)))) (by show (⟨z3, 0⟩ : Cq).sz ≤ _; omega) (by omega)).mono fun v V9 l9 ⟨r9, hv, h9⟩ => ⟨r9, hv, ?_⟩
 have h9 : QAt V9 r9 ((⟨z3, 0⟩ : Cq) + ⟨z3, 0⟩) := h9
 refine (Z02 h9 (h7.le (View.le_trans l8 l9)) (by omega) (by omega)).mono fun v V10 l10 ⟨r10, hv, h10⟩ => ⟨r10, hv, ?_⟩
 have e10 : ((⟨z3, 0⟩ : Cq) + ⟨z3, 0⟩) * ⟨1 / 2, 0⟩ = ⟨z3, 0⟩ := by rw [G09, y04]; congr 1; grind
 rw [e10] at h10
 refine (m07 h10 h0 (by omega)).mono fun v V11 l11 ⟨r11, b, z, hv, h11, z0, k11, k12⟩ => ⟨r11, b, hv, fun hc => ?_, fun hc => ?_⟩
 · refine whole.mono fun v V12 _ ⟨r, hv, hr⟩ => ⟨r, hv, r, false, rfl, fun e => absurd e (by decide), fun _ p p0 hp => ?_⟩
   rw [(k12 p p0 hp).1] at hc; exact absurd hc (by decide)
 have hb : b = true := by cases b; exact absurd hc (by decide); rfl
 subst hb
 have L11 := View.le_trans L6 (View.le_trans l7 (View.le_trans l8 (View.le_trans l9 (View.le_trans l10 l11))))
 have M11 := View.le_trans l5 (View.le_trans l6 (View.le_trans l7 (View.le_trans l8 (View.le_trans l9 (View.le_trans l10 l11)))))
 refine (f0d (hx.le L11) (by omega)).mono fun v V13 l13 ⟨r14, hv, h14⟩ => ⟨r14, hv, ?_⟩
 have h14 : QAt V13 r14 ⟨z3, 0⟩ := h14
 refine (I0b (h3.le (View.le_trans M11 l13)) h14 (by omega) (by omega)).mono fun v V14 l14 ⟨r15, hv, h15⟩ => ⟨r15, hv, ?_⟩
 have e15 : (⟨z3, 0⟩ : Cq) - ⟨z3, 0⟩ = Cq.zero := Cq.ext' (by rw [t0f]; show z3 - z3 = 0; grind) (by rw [u0f]; show (0 : Rat) - 0 = 0; grind)
 rw [e15] at h15
 have zz := H04
 refine (Z02 h15 (h7.le (View.le_trans l8 (View.le_trans l9 (View.le_trans l10 (View.le_trans l11 (View.le_trans l13 l14)))))) (by omega) (by omega)).mono fun v V15 l15 ⟨r16, hv, h16⟩ => ⟨r16, hv, ?_⟩
 have e16 : Cq.zero * ⟨1 / 2, 0⟩ = Cq.zero := Cq.ext' (by rw [O06]; show (0 : Rat) * _ - 0 * _ = 0; grind) (by rw [P06]; show (0 : Rat) * _ + 0 * _ = 0; grind)
 rw [e16] at h16
 refine (m07 (q := 0) h16 (by grind) (Nat.le_trans zz (by omega))).mono fun v V16 l16 ⟨r17, b17, z17, hv, h17, _, _, k17⟩ => ⟨r17, b17, hv, ?_⟩
 obtain ⟨e1, e2⟩ := k17 0 (by grind) (Rat.zero_mul _)
 subst e1; subst e2
 refine ⟨fun hc => absurd hc (by decide), fun _ => ⟨fun hn => ?_, fun _ => ?_⟩⟩
 · have := hx.re; have hi := hx.im.1; rw [re_B] at hi; rw [hi] at hn; exact absurd hn (by decide)
 refine (m03 (n := 1) (by omega) (by omega)).mono fun v V23 l23 ⟨r24, hv, h24⟩ => ⟨r24, hv, fun b3 V24 l24 _ hb3 => ?_⟩
 have hi : QAt V24 (NumV.mk (WhV.mk false (Sl.mk none 0 0)) r24 (Sl.mk (some (Addr.mk b3 0 none)) 1 1)) ⟨0, 1⟩ := by
  obtain ⟨e1, e2, e3⟩ := a0v
  exact ⟨by rw [e1]; exact H00.zero _, by rw [e2]; exact h24.le l24, by rw [e3]; exact e00.lit (n := 1) hb3 (by omega) (by omega)⟩
 have hs1 : (⟨0, 1⟩ : Cq).sz ≤ 4 := by obtain ⟨e1, e2, e3⟩ := a0v; unfold Cq.sz; rw [e1, e2, e3]; decide
 have h17 : QAt V16 r17 Cq.zero := h17
 refine (Z02 (h17.le (View.le_trans l23 l24)) hi (by omega) (by omega)).mono fun v V25 l25 ⟨r25, hv, h25⟩ => ⟨r25, hv, ?_⟩
 have e25 : Cq.zero * ⟨0, 1⟩ = Cq.zero := Cq.ext' (by rw [O06]; show (0 : Rat) * _ - 0 * _ = 0; grind) (by rw [P06]; show (0 : Rat) * _ + 0 * _ = 0; grind)
 rw [e25] at h25
 have N := View.le_trans l13 (View.le_trans l14 (View.le_trans l15 (View.le_trans l16 (View.le_trans l23 (View.le_trans l24 l25)))))
 have zs := P0s (k11 rfl) hz
 refine (Z04 (h11.le N) h25 (by omega) (by omega)).mono fun v V26 l26 ⟨r26, hv, h26⟩ => ⟨r26, hv, r26, true, rfl, fun _ => ⟨z, ?_, z0, k11 rfl⟩, fun e => absurd e (by decide)⟩
 have e26 : (⟨z, 0⟩ : Cq) + Cq.zero = ⟨z, 0⟩ := Cq.ext' (by rw [f09]; show z + 0 = z; grind) (by rw [g09]; show (0 : Rat) + 0 = 0; grind)
 rw [e26] at h26; exact h26
def K07 (k : Nat) : Rat := 1 / ((2 ^ k : Nat) : Rat)
theorem n0f (k : Nat) (a : Int) : Rep ⟨(a : Rat) * K07 k, 0⟩ a 0 (2 ^ k) := ⟨k0h k, by show (a : Rat) * (1 / _) = _; rw [Rat.div_def, Rat.div_def, Rat.one_mul], a09 _⟩
theorem o0f (k : Nat) : K07 k * ((2 ^ k : Nat) : Rat) = 1 := Rat.div_mul_cancel (W00 (k0h k))
theorem p0f (k : Nat) : 0 < K07 k := by
 unfold K07; rw [Rat.div_def, Rat.one_mul]; exact Rat.inv_pos.2 (by exact_mod_cast Nat.pow_pos (by omega))
theorem z0t (k : Nat) : K07 k ≤ 1 := by
 have h : (1 : Rat) ≤ ((2 ^ k : Nat) : Rat) := by exact_mod_cast Nat.pow_pos (n := k) (show 0 < 2 by omega)
 have := Rat.mul_le_mul_of_nonneg_left h (Rat.le_of_lt (p0f k))
 rw [o0f, Rat.mul_one] at this; exact this
theorem A0t {V : View} {k : Nat} (hk : k ≤ 2 ^ 30) (Q : Sl → View → Prop) (h : ∀ s V', V.le V' → e00 V' s (2 ^ k) → Q s V') :
 a00 prog I0c #[.int .u64 1] V fun v V1 => ∃ r3 : Sl, v = r3.v ∧ a00 prog P07 #[r3.v, .int .i64 (k : Int)] V1 fun v V2 => ∃ r4 : Sl, v = r4.v ∧ Q r4 V2 := by
 refine (l03 (n := 1) (by omega) (by omega)).mono fun v V1 l1 ⟨s, hv, hs⟩ => ⟨s, hv, ?_⟩
 refine (A01 (n := k) hs (Nat.le_trans b0d (by decide)) (by omega)).mono fun v V2 l2 ⟨t, hv, ht⟩ => ⟨t, hv, h t V2 (View.le_trans l1 l2) ?_⟩
 have : (1 : Int).toNat * 2 ^ k = 2 ^ k := by rw [show (1 : Int).toNat = 1 from rfl, Nat.one_mul]
 rw [← this]; exact ht
theorem w0g {V : View} {k : Nat} (hk : k ≤ 2 ^ 30) : a00 prog X0m #[.int .i64 (k : Int)] V fun v V' => ∃ r : NumV, v = r.val ∧ QAt V' r ⟨K07 k, 0⟩ := by
 refine F0k (k : Int) V _ ((m03 (n := 1) (by omega) (by omega)).mono fun v V1 l1 ⟨r1, hv, h1⟩ => ⟨r1, hv, (m03 (n := 0) (by omega) (by omega)).mono fun v V2 l2 ⟨r2, hv, h2⟩ => ⟨r2, hv, ?_⟩⟩)
 refine A0t hk (fun r4 V4 => a00 prog O07 #[r1.val, r2.val, r4.v] V4 fun v V5 => ∃ r5 : NumV, v = r5.val ∧ ∃ r : NumV, r5.val = r.val ∧ QAt V5 r ⟨K07 k, 0⟩) fun s V4 l4 hs => ?_
 have R := n0f k 1
 rw [show ((1 : Int) : Rat) * K07 k = K07 k from Rat.one_mul _] at R
 have := Z01 k
 exact (F01 (h1.le (View.le_trans l2 l4)) (h2.le l4) hs R b0d (by rw [Int.natAbs_zero, F03]; omega) (I04 (by omega))).mono fun v V5 _ ⟨r5, hv, h5⟩ => ⟨r5, hv, r5, rfl, h5⟩
theorem q0f {V : View} {x : NumV} {q : Rat} {k : Nat} (hx : QAt V x ⟨q, 0⟩) (h0 : 0 ≤ q) {S : Nat} (hz : (⟨q, 0⟩ : Cq).sz ≤ S) (hS : S ≤ 2 ^ 30) (hk : k ≤ 2 ^ 30) :
 a00 prog s0k #[x.val, .int .i64 (k : Int)] V fun v V' => ∃ (r : NumV) (z : Rat), v = r.val ∧ QAt V' r ⟨z, 0⟩ ∧ (⟨z, 0⟩ : Cq).sz ≤ S + 2 * k + 2 ∧ 0 ≤ z ∧ z * z ≤ q ∧ q < (z + K07 k) * (z + K07 k) := by
 have zA := Cq.szA (⟨q, 0⟩ : Cq); have zD := Cq.szD (⟨q, 0⟩ : Cq)
 have cr := (⟨q, 0⟩ : Cq).canon.rep.re
 obtain ⟨A, hA⟩ : ∃ A : Nat, (⟨q, 0⟩ : Cq).A = A := ⟨(⟨q, 0⟩ : Cq).A.toNat, by have := re_A h0; omega⟩
 have dne := (⟨q, 0⟩ : Cq).D_pos
 obtain ⟨D, hD⟩ : ∃ D : Nat, (⟨q, 0⟩ : Cq).D = D := ⟨_, rfl⟩
 have hm := hx.re.2
 have hu := hx.under
 rw [hA, Int.natAbs_natCast] at hm zA
 rw [hD] at hu zD dne
 rw [hA, hD] at cr
 have cr : q = (A : Rat) / (D : Rat) := cr
 have w : i64.wrap (2 * (k : Int)) = ((2 * k : Nat) : Int) := by rw [i64w (by omega) (by omega)]; omega
 refine n0i x (k : Int) V _ ?_
 rw [w]
 refine (A01 (n := 2 * k) hm (I04 (by omega)) (by omega)).mono fun v V1 l1 ⟨r1, hv, h1⟩ => ⟨r1, hv, ?_⟩
 have b1 := J08 A (2 ^ (2 * k))
 have b2 := Z01 (2 * k)
 refine (S01 h1 (hu.le l1) (I04 (by omega)) dne).mono fun v V2 l2 ⟨q2, r2, hv, h2, _⟩ => ⟨q2, r2, hv, ?_⟩
 have b3 := I06 (Nat.div_le_self (A * 2 ^ (2 * k)) D)
 refine (n05 h2 (by omega)).mono fun v V3 l3 ⟨r3, m, hv, h3, hm⟩ => ⟨r3, hv, ?_⟩
 have mb := m0f hm
 refine (m03 (n := 0) (by omega) (by omega)).mono fun v V4 l4 ⟨r5, hv, h5⟩ => ⟨r5, hv, ?_⟩
 obtain ⟨z, hz'⟩ : ∃ z : Rat, z = ((m : Int) : Rat) * K07 k := ⟨_, rfl⟩
 have R := n0f k (m : Int)
 rw [← hz'] at R
 have zs : (⟨z, 0⟩ : Cq).sz ≤ S + 2 * k + 2 := R.sz (by rw [Int.natAbs_natCast]; omega) (by rw [Int.natAbs_zero, f06]; omega) (by have := Z01 k; omega)
 refine A0t hk (fun r7 V6 => a00 prog O07 #[(WhV.mk false r3).val, r5.val, r7.v] V6 fun v V5 => ∃ r8 : NumV, v = r8.val ∧ ∃ (r : NumV) (z : Rat), r8.val = r.val ∧ QAt V5 r ⟨z, 0⟩ ∧ (⟨z, 0⟩ : Cq).sz ≤ S + 2 * k + 2 ∧ 0 ≤ z ∧ z * z ≤ q ∧ q < (z + K07 k) * (z + K07 k)) fun s V6 l6 hs => ?_
 have hi : H00 V6 (WhV.mk false r3) (m : Int) := ⟨by simp, by rw [Int.natAbs_natCast]; exact h3.le (View.le_trans l4 l6)⟩
 refine (F01 hi (h5.le l6) hs R (by rw [Int.natAbs_natCast]; exact I04 (by omega)) (by rw [Int.natAbs_zero, F03]; omega) (I04 (by have := Z01 k; omega))).mono fun v V7 _ ⟨r8, hv, h8⟩ => ⟨r8, hv, r8, z, rfl, h8, zs, ?_⟩
 -- the numbers
 obtain ⟨u, hu'⟩ : ∃ u, u = K07 k := ⟨_, rfl⟩
 obtain ⟨P, hP⟩ : ∃ P : Nat, P = 2 ^ k := ⟨_, rfl⟩
 have up : 0 < u := hu' ▸ p0f k
 have uP : u * (P : Rat) = 1 := by rw [hu', hP]; exact o0f k
 have e2 : 2 ^ (2 * k) = P * P := by rw [hP, ← Nat.pow_add]; congr 1; omega
 rw [e2] at hm
 rw [← hu'] at hz' ⊢
 have Dp : (0 : Rat) < (D : Rat) := by exact_mod_cast (by omega : 0 < D)
 have qD : q * (D : Rat) = (A : Rat) := by rw [cr]; exact Rat.div_mul_cancel (W00 dne)
 have mz : ((m : Int) : Rat) = (m : Rat) := rfl
 have zP : z * (P : Rat) = (m : Rat) := by rw [hz', mz]; grind
 have Pp : (0 : Rat) < (P : Rat) * (P : Rat) := by
  have : (0 : Rat) < (P : Rat) := by rw [hP]; exact_mod_cast Nat.pow_pos (by omega)
  exact Rat.mul_pos this this
 have pos := Rat.mul_pos Pp Dp
 refine ⟨?_, ?_, ?_⟩
 · rw [hz']; exact Rat.mul_nonneg (by rw [mz]; exact_mod_cast Nat.zero_le m) (Rat.le_of_lt up)
 · have h := (Nat.le_div_iff_mul_le (by omega)).1 hm.1
   have h : (m : Rat) * (m : Rat) * (D : Rat) ≤ (A : Rat) * ((P : Rat) * (P : Rat)) := by exact_mod_cast h
   refine Rat.not_lt.1 fun g => ?_
   have g := Rat.mul_lt_mul_of_pos_right g pos
   rw [← zP, ← qD] at h
   grind
 · have h := (Nat.div_lt_iff_lt_mul (by omega)).1 hm.2
   have h : (A : Rat) * ((P : Rat) * (P : Rat)) < ((m : Rat) + 1) * ((m : Rat) + 1) * (D : Rat) := by exact_mod_cast h
   refine Rat.not_le.1 fun g => ?_
   have g := Rat.mul_le_mul_of_nonneg_right g (Rat.le_of_lt pos)
   have e1 : (m : Rat) + 1 = (z + u) * (P : Rat) := by grind
   rw [e1, ← qD] at h
   grind

theorem O0v {V : View} {b k : Nat} {l : List Value} (h : V b = some l.toArray) : V.has (Option.map (fun q => Addr.add q k) (some (Addr.mk b 0 none))) (l.drop k) := by
 intro j v hj
 have e : (Option.map (fun q => Addr.add q k) (some (Addr.mk b 0 none))).map (·.add j) = (some (Addr.mk b 0 none)).map (·.add (k + j)) := by
  show some (((Addr.mk b 0 none).add k).add j) = some ((Addr.mk b 0 none).add (k + j))
  rw [I0j]
 rw [e, q0c h]
 rw [List.getElem?_drop] at hj
 simpa using hj
theorem Y0n {V : View} {k : Int} {p1 p2 : Option Addr} {x n : NumV} {X N : Rat} (hk : inK k) (hf : finW (Y00 k)) (h1 : V.has (Option.map (fun q => Addr.add q 1) p1) x.val.cells.toList) (s1 : p1.isSome = true) (h2 : V.has p2 n.val.cells.toList) (s2 : p2.isSome = true)
 (hx : L01 V x ⟨X, 0⟩) (hn : L01 V n ⟨N, 0⟩) (zx : (⟨X, 0⟩ : Cq).sz ≤ 2 ^ 20) (zn : (⟨N, 0⟩ : Cq).sz ≤ 2 ^ 30) :
 a00 prog O05 #[.float .f64 (Y00 k), .pointer p1, .pointer p2] V fun v _ => v = .int .i64 (rtC X N (fkq k)) := by
 have zq := S0l hk
 obtain ⟨q, hq⟩ : ∃ q, q = fkq k := ⟨_, rfl⟩
 rw [← hq] at zq ⊢
 have z1 := T01 ⟨q, 0⟩ ⟨q, 0⟩
 have two : (⟨((2 : Int) : Rat), 0⟩ : Cq).sz ≤ 2 := (Rep.ofInt 2).sz (by decide) (by decide) (by decide)
 refine N0i (Y00 k) p1 p2 V _ ((f0f hf).mono fun v V1 l1 ⟨r1, hv, hr1⟩ => ⟨r1, hv, s1, x, s03 l1 h1, by rw [Option.isSome_map]; exact s1, ?_⟩)
 rw [keyK hk, ← hq] at hr1
 refine (Y02 hr1 hr1 (by omega) (by omega)).mono fun v V2 l2 ⟨r2, hv, hr2⟩ => ⟨r2, hv, (U08 (by omega) (by omega)).mono fun v V3 l3 ⟨r3, hv, hr3⟩ => ⟨r3, hv, ?_⟩⟩
 have z2 := T01 ((⟨q, 0⟩ : Cq) * ⟨q, 0⟩) ⟨((2 : Int) : Rat), 0⟩
 refine (Y02 (hr2.le l3) hr3 (by omega) (by omega)).mono fun v V4 l4 ⟨r4, hv, hr4⟩ => ⟨r4, hv, ?_⟩
 have L4 := View.le_trans l1 (View.le_trans l2 (View.le_trans l3 l4))
 have z3 := a0m ((⟨q, 0⟩ : Cq) * ⟨q, 0⟩ * ⟨((2 : Int) : Rat), 0⟩) ⟨X, 0⟩
 refine (F0l hr4 (hx.le L4) (by omega) (by omega)).mono fun v V5 l5 ⟨r5, hv, hr5⟩ => ⟨r5, hv, ?_⟩
 have e5 : (⟨q, 0⟩ : Cq) * ⟨q, 0⟩ * ⟨((2 : Int) : Rat), 0⟩ - ⟨X, 0⟩ = ⟨rtD X q, 0⟩ := by
  rw [y04, y04, o0j]; rfl
 rw [e5] at hr5 z3
 refine (W08 hr5 (L01.zero V5) (by omega) (Nat.le_trans H04 (by omega))).mono fun v V6 l6 hv => ⟨_, hv, ?_⟩
 have e6 : (⟨rtD X q, 0⟩ : Cq).cmp Cq.zero = cmpR (rtD X q) 0 := U0n _ _
 rw [e6]
 have cl : cmpR (rtD X q) 0 < 0 ↔ rtD X q < 0 := by
  unfold cmpR
  by_cases c : rtD X q < 0
  · rw [if_pos c]; exact ⟨fun _ => c, fun _ => by decide⟩
  · rw [if_neg c]; constructor
    · intro h; split at h <;> exact absurd h (by decide)
    · intro h; exact absurd h c
 refine ⟨fun hc => ?_, fun hc => ?_⟩
 · have hc : rtD X q < 0 := by rw [decide_eq_true_iff] at hc; exact cl.1 hc
   unfold rtC; rw [if_pos hc]
 · have hc : ¬ rtD X q < 0 := by rw [decide_eq_false_iff_not] at hc; exact fun g => hc (cl.2 g)
   have L6 := View.le_trans L4 (View.le_trans l5 l6)
   refine ⟨n, s03 L6 h2, s2, ?_⟩
   have z4 := T01 (⟨rtD X q, 0⟩ : Cq) ⟨rtD X q, 0⟩
   refine (Y02 (hr5.le l6) (hr5.le l6) (by omega) (by omega)).mono fun v V7 l7 ⟨r7, hv, hr7⟩ => ⟨r7, hv, ?_⟩
   refine (W08 hr7 (hn.le (View.le_trans L6 l7)) (by omega) (by omega)).mono fun v V8 _ hv => ⟨_, hv, ?_⟩
   rw [y04]
   have e8 : (⟨rtD X q * rtD X q, 0⟩ : Cq).cmp ⟨N, 0⟩ = cmpR (rtD X q * rtD X q) N := U0n _ _
   rw [e8]
   unfold rtC; rw [if_neg hc]
theorem Z0n {V : View} {k : Int} {p : Option Addr} {f : Fn2} {X N : Rat} (hp : V.load p = some (f.val O05))
 (h : a00 prog O05 #[.float .f64 (Y00 k), .pointer f.p0, .pointer f.p1] V fun v _ => v = .int .i64 (rtC X N (fkq k))) :
 a00 prog D08 #[.float .f64 (Y00 k), .pointer p] V fun v _ => v = .bool (decide (rtC X N (fkq k) ≤ 0)) :=
 O0i (Y00 k) p V _ ⟨f, hp, h.mono fun v V1 _ hv => ⟨_, hv, rfl⟩⟩
theorem a0o {V : View} {f : Fn1} (U : Nat → Bool) (h0 : U 0 = true) (hU : ∀ V' (r : Nat), V.le V' → r < infR → a00 prog D08 #[.float .f64 r, .pointer f.p0] V' fun v _ => v = .bool (U r)) :
 a00 prog q0k #[f.val D08] V fun v _ => ∃ r : Nat, v = .float .f64 r ∧ r < infR ∧ U r = true ∧ (r + 1 = infR ∨ U (r + 1) = false) := by
 have hi : infR = 9218868437227405312 := rfl
 refine M0i f V _ (fun _ x _ => ∃ lo hi : Nat, x.t3 = lo ∧ x.t4 = hi ∧ lo ≤ hi ∧ hi < infR ∧ U lo = true ∧ (hi + 1 = infR ∨ U (hi + 1) = false)) (fun _ x _ => (x.t4 - x.t3).toNat) ?_
 refine ⟨_, a05 9218868437227405311, ⟨0, 9218868437227405311, rfl, rfl, by omega, by omega, h0, .inl (by omega)⟩, ?_⟩
 rintro ⟨t3, t4⟩ V1 l1 ⟨lo, hi', rfl, rfl, hle, hlt, hU1, hU2⟩
 dsimp only
 refine ⟨fun hc => ?_, fun hc => ?_⟩
 · have hc : lo < hi' := by have : (lo : Int) < (hi' : Int) := by simpa using hc
                            omega
   obtain ⟨m, hm⟩ : ∃ m : Nat, m = lo + (hi' - lo + 1) / 2 := ⟨_, rfl⟩
   have w : u64.wrap ((lo : Int) + (u64.wrap (Int.tdiv (u64.wrap ((u64.wrap ((hi' : Int) - (lo : Int))) + 1)) 2))) = (m : Int) := by
    have e1 : (hi' : Int) - (lo : Int) = ((hi' - lo : Nat) : Int) := by omega
    rw [e1, a03 (y := hi' - lo) (by omega)]
    have e2 : ((hi' - lo : Nat) : Int) + 1 = ((hi' - lo + 1 : Nat) : Int) := by omega
    rw [e2, a03 (y := hi' - lo + 1) (by omega)]
    have e3 : Int.tdiv ((hi' - lo + 1 : Nat) : Int) 2 = (((hi' - lo + 1) / 2 : Nat) : Int) := (Int.ofNat_tdiv (hi' - lo + 1) 2).symm
    rw [e3, a03 (y := (hi' - lo + 1) / 2) (by omega)]
    have e4 : (lo : Int) + (((hi' - lo + 1) / 2 : Nat) : Int) = (m : Int) := by omega
    rw [e4, a03 (y := m) (by omega)]
   rw [w]
   refine ⟨m, J03 m, (hU V1 m l1 (by omega)).mono fun v V2 l2 hv => ⟨_, hv, fun hb => ?_, fun hb => ?_⟩⟩
   · exact ⟨⟨m, hi', rfl, rfl, by omega, hlt, hb, hU2⟩, by show ((hi' : Int) - (m : Int)).toNat < ((hi' : Int) - (lo : Int)).toNat; omega⟩
   · have w2 : u64.wrap ((m : Int) - 1) = ((m - 1 : Nat) : Int) := by
       have : (m : Int) - 1 = ((m - 1 : Nat) : Int) := by omega
       rw [this, a03 (by omega)]
     rw [w2]
     refine ⟨⟨lo, m - 1, rfl, rfl, by omega, by omega, hU1, .inr ?_⟩, by show (((m - 1 : Nat) : Int) - (lo : Int)).toNat < ((hi' : Int) - (lo : Int)).toNat; omega⟩
     have : m - 1 + 1 = m := by omega
     rw [this]; exact hb
 · have hc : lo = hi' := by have : ¬ (lo : Int) < (hi' : Int) := by simpa using hc
                            omega
   subst hc
   exact ⟨lo, J03 lo, lo, rfl, hlt, hU1, hU2⟩
theorem B0j {V : View} : a00 prog w0e #[.float .f64 1, .float .f64 infR] V fun v _ => v = .float .f64 1 := by
 refine y0d 1 infR V _ ?_
 refine ⟨_, a05 1, _, a05 infR, 1, ?_, rfl⟩
 have e := J03 1
 refine (?_ : f02 prog M02 #[.int .u64 ((1 : Nat) : Int)] (.float .f64 1) = _) ▸ e
 congr 3
theorem x0g {V : View} {r : Nat} (hr : r < infR) : a00 prog l0d #[.float .f64 r, .float .f64 infR] V fun v _ => v = .float .f64 (r + 1 : Nat) := by
 have hi : infR = 9218868437227405312 := rfl
 have ok1 : okW r := ⟨by omega, by rw [Nat.mod_eq_of_lt (by omega)]; omega⟩
 have ok2 : okW infR := ⟨by omega, by rw [Nat.mod_eq_of_lt (by omega)]; exact Nat.le_refl _⟩
 have ok0 : okW 0 := ⟨by decide, by decide⟩
 have k1 : key r = r := X08 (by omega)
 have k2 : key infR = infR := X08 (by omega)
 have k0 : key 0 = 0 := by decide
 refine o0c r infR V _ ((E04 ok1.1).mono fun v V1 _ hv => ⟨_, hv, fun h => ?_, fun _ => (E04 ok2.1).mono fun v V3 _ hv => ⟨_, hv, fun h => ?_, fun _ => ⟨fun h => ?_, fun _ => ⟨fun h => ?_, fun h => ⟨fun _ => ?_, fun h2 => ?_⟩⟩⟩⟩⟩)
 · have h : ¬ okW r := by simpa using h
   exact absurd ok1 h
 · have h : ¬ okW infR := by simpa using h
   exact absurd ok2 h
 · rw [l08 ok1 ok2, k1, k2] at h
   have h : (r : Int) = infR := by simpa using h
   omega
 · rw [l08 ok1 ok0, k1, k0] at h
   have h : (r : Int) = 0 := by simpa using h
   have r0 : r = 0 := by omega
   subst r0
   exact ⟨1, J03 1, B0j.mono fun v V5 _ hv => ⟨_, hv, rfl⟩⟩
 · refine ⟨_, a05 r, r + 1, ?_, rfl⟩
   have w : u64.wrap ((r : Int) + 1) = ((r + 1 : Nat) : Int) := by
    have : (r : Int) + 1 = ((r + 1 : Nat) : Int) := by omega
    rw [this, a03 (by omega)]
   rw [w]; exact J03 (r + 1)
 · exfalso
   rw [l08 ok1 ok0, k1, k0] at h
   have h : ¬ (r : Int) = 0 := by simpa using h
   rw [d0a ok2 ok1, d0a ok1 ok0, k1, k2, k0] at h2
   have a1 : decide ((r : Int) < (infR : Int)) = true := by rw [decide_eq_true_iff]; omega
   have a2 : decide ((0 : Int) < (r : Int)) = true := by rw [decide_eq_true_iff]; omega
   rw [a1, a2] at h2; exact absurd h2 (by decide)
theorem T0b {V : View} {a b : BdV} {e f : Eb} (up : Bool) (ha : BdAt V a e) (hb : BdAt V b f) (he : e.num.sz ≤ 2 ^ 12) (hf : f.num.sz ≤ 2 ^ 12) :
 a00 prog Q0p #[a.val, b.val, .bool up] V fun v _ => ∃ k : Nat, v = .float .f64 k ∧ X02 e f up k := by
 have ia := ha.inf; have ib := hb.inf
 refine H0n a b up V _ ⟨fun h => ?_, fun h => ⟨fun h2 => ?_, fun h2 => ⟨fun h3 => ?_, fun h3 => ?_⟩⟩⟩
 · have h : 0 < e.inf := by rw [← ia]; simpa using h
   exact g0a.mono fun v V1 _ hv => ⟨_, hv, infR, rfl, by unfold X02; rw [if_pos (.inl h)]⟩
 · have h2 : f.inf ≠ 0 := by rw [← ib]; simpa using h2
   exact g0a.mono fun v V1 _ hv => ⟨_, hv, infR, rfl, by unfold X02; rw [if_pos (.inr h2)]⟩
 · have h : ¬ 0 < e.inf := by rw [← ia]; rw [decide_eq_false_iff_not] at h; exact h
   have h2 : ¬ f.inf ≠ 0 := by rw [← ib]; simpa using h2
   have h3 : e.inf < 0 := by rw [← ia]; simpa using h3
   exact ⟨0, rfl, by unfold X02; rw [if_neg (by rintro (g | g); exact h g; exact h2 g), if_pos h3]⟩
 · have h : ¬ 0 < e.inf := by rw [← ia]; rw [decide_eq_false_iff_not] at h; exact h
   have h2 : ¬ f.inf ≠ 0 := by rw [← ib]; simpa using h2
   have h3 : ¬ e.inf < 0 := by rw [← ia]; rw [decide_eq_false_iff_not] at h3; exact h3
   have goal : ∀ k, (∃ r, s08 (rtP e.x (e.x * e.x + f.x * f.x)) r ∧ k = if up = true ∧ rtC e.x (e.x * e.x + f.x * f.x) (fkq (r : Int)) ≠ 0 then r + 1 else r) → X02 e f up k := by
    intro k hk
    unfold X02; rw [if_neg (by rintro (g | g); exact h g; exact h2 g), if_neg h3]; exact hk
   obtain ⟨X, hX⟩ : ∃ X, X = e.x := ⟨_, rfl⟩
   obtain ⟨N, hN⟩ : ∃ N, N = e.x * e.x + f.x * f.x := ⟨_, rfl⟩
   have hXN : X * X ≤ N := by rw [hX, hN]; exact G0w _ _
   rw [← hN, ← hX] at goal
   have s1 := T01 e.num e.num; have s2 := T01 f.num f.num; have s3 := q04 (e.num * e.num) (f.num * f.num)
   refine (Y02 ha.num ha.num (by omega) (by omega)).mono fun v V3 l3 ⟨r3, hv, hr3⟩ => ⟨r3, hv, (Y02 (hb.num.le l3) (hb.num.le l3) (by omega) (by omega)).mono fun v V4 l4 ⟨r4, hv, hr4⟩ => ⟨r4, hv, ?_⟩⟩
   refine (c07 (hr3.le l4) hr4 (by omega) (by omega)).mono fun v V5 l5 ⟨r5, hv, hr5⟩ => ⟨r5, hv, ?_⟩
   have e5 : e.num * e.num + f.num * f.num = ⟨N, 0⟩ := by
    show (⟨e.x, 0⟩ : Cq) * ⟨e.x, 0⟩ + ⟨f.x, 0⟩ * ⟨f.x, 0⟩ = _
    rw [y04, y04, G09, hN]
   rw [e5] at hr5 s3
   intro b1 V6 l6 hb1 b2 V7 l7 hb2 b3 V8 l8 hb3
   have zx : (⟨X, 0⟩ : Cq).sz ≤ 2 ^ 20 := by rw [hX]; exact Nat.le_trans he (by omega)
   have zn : (⟨N, 0⟩ : Cq).sz ≤ 2 ^ 30 := by omega
   have cmp : ∀ {V' : View} {k : Nat}, V8.le V' → k < infR → a00 prog O05 #[.float .f64 k, .pointer (some (Addr.mk b1 0 none)), .pointer (some (Addr.mk b2 0 none))] V' fun v _ => v = .int .i64 (rtC X N (fkq (k : Int))) := by
    intro V' k hle hk
    have L := View.le_trans (View.le_trans l7 l8) hle
    have L2 := View.le_trans l8 hle
    have := Y0n (V := V') (k := (k : Int)) (p1 := some (Addr.mk b1 0 none)) (p2 := some (Addr.mk b2 0 none)) (x := a.x) (n := r5) (X := X) (N := N) (K06 (by omega)) (by rw [b05]; exact ⟨by unfold infR at hk; omega, by rw [Nat.mod_eq_of_lt (by unfold infR at hk; omega)]; exact hk⟩)
     (s03 L (O0v (k := 1) hb1)) rfl (s03 L2 (s0t hb2)) rfl
     (by rw [hX]; exact ha.num.le (View.le_trans l3 (View.le_trans l4 (View.le_trans l5 (View.le_trans l6 L))))) (hr5.le (View.le_trans l6 L)) zx zn
    rw [b05] at this
    exact this
   have ld : ∀ {V' : View}, V8.le V' → V'.load (some (Addr.mk b3 0 none)) = some ((Fn2.mk (some (Addr.mk b1 0 none)) (some (Addr.mk b2 0 none))).val O05) := by
    intro V' hle
    exact k02 hle (by simp only [View.load, hb3]; rfl)
   refine (a0o (f := Fn1.mk (some (Addr.mk b3 0 none))) (fun r => decide (rtC X N (fkq (r : Int)) ≤ 0)) ?_ ?_).mono fun v V9 l9 ⟨r, hv, hr, hU, hn⟩ => ⟨r, hv, ?_⟩
   · show decide (rtC X N (fkq ((0 : Nat) : Int)) ≤ 0) = true
     rw [show ((0 : Nat) : Int) = 0 from rfl, a08, decide_eq_true_iff, J0s]; exact m0u hXN
   · intro V' r hle hr
     have := Z0n (V := V') (k := (r : Int)) (p := some (Addr.mk b3 0 none)) (ld hle) (by rw [b05]; exact cmp hle hr)
     rw [b05] at this
     exact this
   have top : s08 (rtP X N) r := by
    refine ⟨hr, J0s.1 (by simpa using hU), hn.imp id fun g => ?_⟩
    have g : ¬ rtC X N (fkq ((r + 1 : Nat) : Int)) ≤ 0 := by simpa using g
    exact fun p => g (J0s.2 p)
   refine ⟨fun hu => ⟨_, ld l9, (cmp l9 hr).mono fun v V10 l10 hv => ⟨_, hv, fun hc => ?_, fun hc => ?_⟩⟩, fun hu => ?_⟩
   · have hc : rtC X N (fkq (r : Int)) ≠ 0 := by simpa using hc
     refine g0a.mono fun v V11 _ hv => ⟨_, hv, (x0g hr).mono fun v V12 _ hv => ⟨_, hv, r + 1, rfl, goal _ ⟨r, top, ?_⟩⟩⟩
     rw [if_pos ⟨hu, hc⟩]
   · have hc : rtC X N (fkq (r : Int)) = 0 := by simpa using hc
     exact ⟨r, rfl, goal _ ⟨r, top, by rw [if_neg (fun g => g.2 hc)]⟩⟩
   · exact ⟨r, rfl, goal _ ⟨r, top, by rw [if_neg (fun g => by rw [hu] at g; exact absurd g.1 (by decide))]⟩⟩

def sR (q : Rat) : Nat := (⟨q, 0⟩ : Cq).sz
theorem b0v (a b : Rat) : sR (a + b) ≤ sR a + sR b + 1 := by unfold sR; rw [← G09]; exact q04 _ _
theorem f0p (a b : Rat) : sR (a * b) ≤ sR a + sR b + 1 := by unfold sR; rw [← y04]; exact T01 _ _
theorem c0v (a b : Rat) : sR (a - b) ≤ sR a + sR b + 1 := by unfold sR; rw [← o0j]; exact a0m _ _
theorem P0w : sR 1 ≤ 4 := by unfold sR; decide +kernel
theorem Q0w : sR 2 ≤ 4 := by unfold sR; decide +kernel
theorem P0v {k : Nat} : sR (K07 k) ≤ k + 1 := by
 have R := n0f k 1
 rw [show ((1 : Int) : Rat) * K07 k = K07 k from Rat.one_mul _] at R
 have := Z01 k
 exact R.sz (by rw [show (1 : Int).natAbs = 1 from rfl, x0o]; omega) (by rw [Int.natAbs_zero, f06]; omega) (by omega)
theorem eqK {a b : Int} (ha : inK a) (hb : inK b) : (FloatKind.f64.format.order (Y00 a) (Y00 b) == some .eq) = decide (a = b) := by
 have h1 := leK ha hb
 have h2 := ltK ha hb
 have e : ∀ o : Option Ordering, ((o == some .lt) || (o == some .eq)) = decide (a ≤ b) → (o == some .lt) = decide (a < b) → (o == some .eq) = decide (a = b) := by
  intro o h h'
  by_cases c : a = b
  · subst c
    rw [decide_eq_false (by omega)] at h'
    rw [h', decide_eq_true (by omega)] at h
    simpa using h
  · rw [decide_eq_false c]
    by_cases d : a < b
    · rw [decide_eq_true d] at h'
      cases o with
      | none => rfl
      | some o => cases o <;> first | rfl | exact absurd h' (by decide)
    · rw [decide_eq_false (by omega)] at h
      cases o with
      | none => rfl
      | some o => cases o <;> first | rfl | exact absurd h (by decide)
 exact e _ h1 h2
theorem e0r {a : Int} {k : Nat} (h : (k : Int) < a) : (a - ((k + 64 : Nat) : Int)).toNat < (a - (k : Int)).toNat := by omega
def sqP (v q : Rat) : Prop := q * q ≤ v
theorem Q0d (v : Rat) : ∀ p q, 0 ≤ p → p ≤ q → sqP v q → sqP v p := fun _ _ h0 h g => Rat.le_trans (F0a h0 h) g
def topQ : Rat := fkq ((infR - 1 : Nat) : Int)
theorem A0u {v : Rat} {r : Nat} (hv : v < topQ * topQ) (h : s08 (sqP v) r) : r + 1 < infR ∧ v < fkq ((r + 1 : Nat) : Int) * fkq ((r + 1 : Nat) : Int) := by
 have hi : infR = 9218868437227405312 := rfl
 have key : r + 1 ≠ infR := by
  intro e
  have e2 : infR - 1 = r := by omega
  have := h.le
  unfold topQ at hv; rw [e2] at hv
  unfold sqP at this; grind
 have lt := h.lt
 refine ⟨by omega, ?_⟩
 rcases h.next with e | e
 · exact absurd e key
 · unfold sqP at e; exact Rat.not_le.1 e
theorem S0w {r : Nat} (h : r < infR) : inK (r : Int) := K06 (by omega)
theorem Q0v {r : Nat} (h : r < infR) : inK ((r + 1 : Nat) : Int) := K06 (by omega)
def B0u (v : Rat) (r : Nat) (up : Int) : Prop := s08 (sqP v) r ∧ up = if fkq (r : Int) * fkq (r : Int) = v then (r : Int) else ((r + 1 : Nat) : Int)
theorem y0g {V : View} {x : NumV} {v0 : Rat} (hx : QAt V x ⟨v0, 0⟩) (h0 : 0 ≤ v0) (hz : sR v0 ≤ 2 ^ 20) (hb : v0 < topQ * topQ) :
 a00 prog u0e #[x.val] V fun v V' => ∃ (r : Nat) (up : Int), v = .tuple #[.float .f64 (Y00 (r : Int)), .float .f64 (Y00 up)] ∧ B0u v0 r up := by
 have hz' : (⟨v0, 0⟩ : Cq).sz ≤ 2 ^ 20 := hz
 obtain ⟨r, hr⟩ := d0m (P := sqP v0) (by unfold sqP; grind)
 obtain ⟨nx, hA⟩ := A0u hb hr
 obtain ⟨B, hB⟩ : ∃ B, B = fkq (r : Int) := ⟨_, rfl⟩
 obtain ⟨A, hA'⟩ : ∃ A, A = fkq ((r + 1 : Nat) : Int) := ⟨_, rfl⟩
 have sB : sR B ≤ 2100 := hB ▸ S0l (S0w hr.lt)
 have sA : sR A ≤ 2100 := hA' ▸ S0l (Q0v hr.lt)
 have BA : B < A := by rw [hB, hA']; exact P0u.2 (by omega)
 have B0 : 0 ≤ B := hB ▸ k05 r
 have hB1 : B * B ≤ v0 := hB ▸ hr.le
 rw [← hA'] at hA
 refine G0k x V _ (fun _ x _ => ∃ k : Nat, x.t6 = k ∧ k ≤ 2 ^ 23 + 64) (fun _ x _ => (2 ^ 24 - x.t6).toNat) ((u0g hx h0 (by omega)).mono fun v V1 l1 ⟨r1, b, hv, k1, k2⟩ => ⟨r1, b, hv, fun hc => ?_, fun hc => ?_⟩)
 · obtain ⟨z, hz1, z0, hz2⟩ := k1 hc
   have zs := P0s hz2 hz'
   obtain ⟨r', t1, t2, t3⟩ := K0s (Q0d v0) z0 (by unfold sqP; grind) (fun q h => by unfold sqP; have := I0s z0 h; grind)
   have := hr.unique (Q0d v0) t1
   subst this
   refine (S03 hz1 (by omega)).mono fun v V2 l2 hv => ⟨_, hv, (o03 (hz1.le l2) (by omega)).mono fun v V3 _ hv => ⟨_, hv, r, w01 z, ?_, hr, ?_⟩⟩
   · have t2 : y00 (⟨z, 0⟩ : Cq).re = r := t2
     rw [t2]
   · rcases t3 with ⟨e, f⟩ | ⟨e, f⟩
     · rw [if_pos (by rw [e]; exact hz2), f]
     · rw [if_neg (fun g => by have := I0s (k05 r) e; grind), f]
 have ns := k2 hc
 have hB2 : B * B < v0 := by have := ns B B0; grind
 refine ⟨⟨64, rfl, by omega⟩, ?_⟩
 rintro ⟨t⟩ V4 l4 ⟨k, rfl, hk⟩
 dsimp only
 replace hx := hx.le (View.le_trans l1 l4)
 refine (q0f hx h0 hz' (by omega) (by omega)).mono fun v V5 l5 ⟨r5, lo, hv, h5, s5, lo0, lo1, lo2⟩ => ⟨r5, hv, ?_⟩
 refine (w0g (by omega)).mono fun v V6 l6 ⟨r6, hv, h6⟩ => ⟨r6, hv, ?_⟩
 have su := P0v (k := k)
 have su : (⟨K07 k, 0⟩ : Cq).sz ≤ k + 1 := su
 have u0 := p0f k
 have u1 := z0t k
 have um := o0f k
 obtain ⟨u, hu⟩ : ∃ u, u = K07 k := ⟨_, rfl⟩
 rw [← hu] at h6 lo2 su u0 u1 um
 refine (Z04 (h5.le l6) h6 (by omega) (by omega)).mono fun v V7 l7 ⟨r7, hv, h7⟩ => ⟨r7, hv, ?_⟩
 have s7 := q04 (⟨lo, 0⟩ : Cq) ⟨u, 0⟩
 rw [G09] at h7 s7
 have b5 := Y05 lo; have b7 := Y05 (lo + u); have a5 := O08 lo; have a7 := O08 (lo + u)
 have L7 := View.le_trans l6 l7
 have next : (¬ (y00 lo = y00 (lo + u) ∧ w01 lo = w01 (lo + u))) → (∃ k' : Nat, i64.wrap ((k : Int) + 64) = k' ∧ k' ≤ 2 ^ 23 + 64) ∧ (2 ^ 24 - i64.wrap ((k : Int) + 64)).toNat < (2 ^ 24 - (k : Int)).toNat := by
  intro g
  have hk2 : k < 2 ^ 23 := by
   refine Nat.not_le.1 fun c => g ?_
   have z1 := f0p 2 B; have z2 := b0v (2 * B) 1; have z3 := f0p B B; have z4 := c0v v0 (B * B)
   have y1 := f0p 2 A; have y2 := b0v (2 * A) 1; have y3 := f0p A A; have y4 := c0v (A * A) v0
   have o1 := P0w; have o2 := Q0w
   have sm1 : u * (2 * B + 1) ≤ v0 - B * B := small (S := 2 ^ 21) (K := k) (by show sR _ ≤ _; omega) (by show sR _ ≤ _; omega) (by grind) (by omega) (Rat.le_of_lt u0) um
   have sm2 : u * (2 * A + 1) ≤ A * A - v0 := small (S := 2 ^ 21) (K := k) (by show sR _ ≤ _; omega) (by show sR _ ≤ _; omega) (by grind) (by omega) (Rat.le_of_lt u0) um
   obtain ⟨c1, c2⟩ := X0q B0 BA hB2 hA u0 u1 sm1 sm2 lo0 lo1 lo2
   rw [hB] at c1; rw [hA'] at c2
   exact D0v nx c1 (by grind) c2
  have w : i64.wrap ((k : Int) + 64) = ((k + 64 : Nat) : Int) := by rw [i64w (by omega) (by omega)]; omega
  rw [w]
  exact ⟨⟨k + 64, rfl, by omega⟩, e0r (by omega)⟩
 refine (S03 (h5.le L7) (by omega)).mono fun v V8 l8 hv => ⟨_, hv, (S03 (h7.le l8) (by omega)).mono fun v V9 l9 hv => ⟨_, hv, ?_⟩⟩
 have q1 := eqK b5 b7
 have q2 := eqK a5 a7
 refine ⟨fun hc => ?_, fun hc => ?_⟩
 · have hc : y00 lo = y00 (lo + u) := of_decide_eq_true (q1 ▸ hc)
   have L9 := View.le_trans L7 (View.le_trans l8 l9)
   refine (o03 (h5.le L9) (by omega)).mono fun v V10 l10 hv => ⟨_, hv, (o03 (h7.le (View.le_trans l8 (View.le_trans l9 l10))) (by omega)).mono fun v V11 l11 hv => ⟨_, hv, ?_⟩⟩
   refine ⟨fun hd => ?_, fun hd => ?_⟩
   · have hd : w01 lo = w01 (lo + u) := of_decide_eq_true (q2 ▸ hd)
     have L11 := View.le_trans L9 (View.le_trans l10 l11)
     refine (S03 (h5.le L11) (by omega)).mono fun v V12 l12 hv => ⟨_, hv, (o03 (h5.le (View.le_trans L11 l12)) (by omega)).mono fun v V13 l13 hv => ⟨_, hv, ?_⟩⟩
     obtain ⟨r', t1, t2, t3, q, t4, t5⟩ := C0v (Q0d v0) lo0 (by grind) (show sqP v0 lo from lo1) (fun g => Rat.not_lt.2 g lo2) hc hd
     have := hr.unique (Q0d v0) t1
     subst this
     refine ⟨r, w01 lo, ?_, hr, ?_⟩
     · have t2 : y00 (⟨lo, 0⟩ : Cq).re = r := t2
       rw [t2]
     · rw [if_neg (by rw [← hB]; exact Rat.ne_of_lt hB2), t3]
   · have hd : ¬ w01 lo = w01 (lo + u) := of_decide_eq_false (q2 ▸ hd)
     exact next fun g => hd g.2
 · have hc : ¬ y00 lo = y00 (lo + u) := of_decide_eq_false (q1 ▸ hc)
   exact next fun g => hc g.1

theorem lt0K {k : Int} (h : inK k) : (FloatKind.f64.format.order (Y00 k) 0 == some .lt) = decide (k < 0) := ltK h D0a
theorem z0g {V : View} {s : Sk} (h : s.ok) : a00 prog A0m #[s.v.val] V fun v _ => ∃ t : Sk, v = .tuple #[t.v.val, .int .i64 (if s.lo < 0 then 1 else 0)] ∧ B0b s t := by
 have l0 := lt0K h.lo
 refine j0l s.v V _ ⟨fun hc => ?_, fun hc => ?_⟩
 · have hc : s.lo < 0 := by have := l0 ▸ hc; simpa using this
   exact ⟨Sk.nil, by rw [if_pos hc]; rfl, by unfold B0b; rw [if_pos hc]⟩
 · have hc : ¬ s.lo < 0 := by have := l0 ▸ hc; simpa using this
   refine (b03 h).mono fun v V1 l1 ⟨r, hv, hr⟩ => ⟨r, hv, ?_⟩
   refine (T0b false hr.lo (BdAt.zero V1) (Nat.le_trans (d08 h.lo) (by omega)) (Nat.le_trans G0a (by omega))).mono fun v V2 l2 ⟨k, hv, hk⟩ => ⟨k, hv, ?_⟩
   refine (T0b true (hr.hi.le l2) (BdAt.zero V2) (Nat.le_trans (d08 h.hi) (by omega)) (Nat.le_trans G0a (by omega))).mono fun v V3 l3 ⟨l, hv, hl⟩ => ⟨l, hv, ⟨(k : Int), (l : Int)⟩, ?_, ?_⟩
   · rw [if_neg hc]; unfold Sk.v; rw [b05, b05]
   · unfold B0b; rw [if_neg hc]; exact ⟨k, l, rfl, hk, hl⟩

def invX (q : Rat) : Rat := ((⟨1, 0⟩ : Cq).div ⟨q, 0⟩).re
def invB (e : Eb) : Eb := if e.inf ≠ 0 then Eb.fin 0 else ⟨0, invX e.x⟩
theorem div_one (q : Rat) : (⟨((1 : Int) : Rat), 0⟩ : Cq).div ⟨q, 0⟩ = ⟨invX q, 0⟩ := by
 refine Cq.ext' ?_ ?_
 · unfold invX; rw [Rat.intCast_one]
 · show ((0 : Rat) * q - ((1 : Int) : Rat) * 0) / _ = 0
   have : (0 : Rat) * q - ((1 : Int) : Rat) * 0 = 0 := by grind
   rw [this, Rat.div_def, Rat.zero_mul]
theorem B0t : invX 0 = 0 := by unfold invX; decide +kernel
theorem C0t {e : Eb} {S : Nat} (h : e.num.sz ≤ S) (hS : 4 ≤ S) : (invB e).num.sz ≤ 4 * S + 8 := by
 unfold invB; split
 · exact Nat.le_trans G0a (by omega)
 · have o : (⟨((1 : Int) : Rat), 0⟩ : Cq).sz ≤ S := Nat.le_trans ((Rep.ofInt 1).sz (k := 1) (by decide) (by decide) (by decide)) (by omega)
   have := Y0u o h
   show (⟨invX e.x, 0⟩ : Cq).sz ≤ _
   rw [← div_one]; exact this
theorem m0a {V : View} {a : BdV} {e : Eb} (ha : BdAt V a e) (hz : e.num.sz ≤ 2 ^ 30) : a00 prog K0m #[a.val] V fun v V' => ∃ b : BdV, v = b.val ∧ BdAt V' b (invB e) := by
 refine J0k a V _ ⟨fun hc => ?_, fun hc => ?_⟩
 · have hc : e.inf ≠ 0 := by rw [← ha.inf]; simpa using hc
   exact ⟨_, rfl, by unfold invB; rw [if_pos hc]; exact BdAt.zero V⟩
 · have hc : ¬ e.inf ≠ 0 := by rw [← ha.inf]; simpa using hc
   refine (U08 (n := 1) (by omega) (by omega)).mono fun v V1 l1 ⟨r1, hv, h1⟩ => ⟨r1, hv, ?_⟩
   refine (e0d h1 (ha.num.le l1) ((Rep.ofInt 1).sz (k := 2 ^ 36) (by decide) (by decide) (by decide)) (by omega)).mono fun v V2 l2 ⟨r2, c, hv, k1, k2⟩ => ⟨r2, c, hv, _, rfl, ?_⟩
   unfold invB; rw [if_neg hc]
   refine ⟨rfl, ?_, .inl rfl⟩
   by_cases z : e.num = Cq.zero
   · have := (k1 z).2
     have ex : e.x = 0 := congrArg Cq.re z
     show L01 V2 r2 ⟨invX e.x, 0⟩
     rw [ex, B0t]; exact this
   · have := (k2 z).2
     show L01 V2 r2 ⟨invX e.x, 0⟩
     rw [← div_one]; exact this
theorem e09 {V : View} {a : BdV} {e : Eb} (ha : BqAt V a e) (hz : e.num.sz ≤ 2 ^ 30) : a00 prog z08 #[a.val] V fun v V' => ∃ b : BdV, v = b.val ∧ BqAt V' b (invB e) := by
 refine o0i a V _ ⟨fun hc => ?_, fun hc => ?_⟩
 · have hc : e.inf ≠ 0 := by rw [← ha.inf]; simpa using hc
   have e0 : invB e = ⟨0, ((0 : Int) : Rat)⟩ := by unfold invB; rw [if_pos hc, Rat.intCast_zero]; rfl
   rw [e0]
   exact (J02 (n := 0) (by omega) (by omega)).mono fun v V1 l1 ⟨r1, hv, h1⟩ => ⟨r1, hv, (p03 h1).mono fun v V2 _ ⟨b, hv, hb⟩ => ⟨b, hv, b, rfl, hb⟩⟩
 · have hc : ¬ e.inf ≠ 0 := by rw [← ha.inf]; simpa using hc
   have e0 : invB e = ⟨0, invX e.x⟩ := by unfold invB; rw [if_neg hc]
   rw [e0]
   refine (J02 (n := 1) (by omega) (by omega)).mono fun v V1 l1 ⟨r1, hv, h1⟩ => ⟨r1, hv, ?_⟩
   refine (A0j h1 (ha.num.le l1) ((Rep.ofInt 1).sz (k := 2 ^ 36) (by decide) (by decide) (by decide)) (by omega)).mono fun v V2 l2 ⟨r2, c, hv, h2, _⟩ => ⟨r2, c, hv, ?_⟩
   have h2 : QAt V2 r2 ((⟨((1 : Int) : Rat), 0⟩ : Cq).div ⟨e.x, 0⟩) := h2
   rw [div_one] at h2
   exact (p03 h2).mono fun v V3 _ ⟨b, hv, hb⟩ => ⟨b, hv, b, rfl, hb⟩
def Es.inv (t : Es) : Es := ⟨invB t.hi, invB t.lo⟩
theorem S0d {t : Es} (h : U00 t 2100) : U00 (Es.inv t) (2 ^ 14) :=
 ⟨Nat.le_trans (C0t h.2 (by omega)) (by omega), Nat.le_trans (C0t h.1 (by omega)) (by omega)⟩
theorem g0p {s : Sk} (h : s.ok) : U00 s.set (2 ^ 14) := ⟨Nat.le_trans (z00 h).1 (by omega), Nat.le_trans (z00 h).2 (by omega)⟩
def Sk.div (s t : Sk) : Sk := if t.lo ≤ 0 ∧ 0 ≤ t.hi then Sk.nil else (s.set.mul (Es.inv t.set)).span
def divE (t : Sk) : Int := if t.lo ≤ 0 ∧ 0 ≤ t.hi then 3 else 0
theorem C0j {V : View} {s t : Sk} (h : s.ok) (k : t.ok) : a00 prog F0p #[s.v.val, t.v.val] V fun v _ => v = .tuple #[(Sk.div s t).v.val, .int .i64 (divE t)] := by
 have zq := U0e k
 refine o0n s.v t.v V _ ((b03 k).mono fun v V1 l1 ⟨r1, hv, h1⟩ => ⟨r1, hv, (f08 h1 (z00 k) (by omega)).mono fun v V2 l2 hv => ⟨_, hv, fun hc => ?_, fun hc => ?_⟩⟩)
 · have hc : t.lo ≤ 0 ∧ 0 ≤ t.hi := by rw [zq] at hc; simpa using hc
   unfold Sk.div divE; rw [if_pos hc, if_pos hc, Y0b]
 · have hc : ¬ (t.lo ≤ 0 ∧ 0 ≤ t.hi) := by rw [zq] at hc; simpa using hc
   unfold Sk.div divE; rw [if_neg hc, if_neg hc]
   replace h1 := h1.le l2
   refine (b03 h).mono fun v V3 l3 ⟨r3, hv, h3⟩ => ⟨r3, hv, ?_⟩
   refine (m0a (h1.hi.le l3) (Nat.le_trans (z00 k).2 (by omega))).mono fun v V4 l4 ⟨r4, hv, h4⟩ => ⟨r4, hv, ?_⟩
   refine (m0a (h1.lo.le (View.le_trans l3 l4)) (Nat.le_trans (z00 k).1 (by omega))).mono fun v V5 l5 ⟨r5, hv, h5⟩ => ⟨r5, hv, ?_⟩
   have hi : EsAt V5 (SetV.mk r4 r5) (Es.inv t.set) := ⟨h4.le l5, h5⟩
   refine (G04 (h3.le (View.le_trans l4 l5)) hi (g0p h) (S0d (z00 k)) (by omega)).mono fun v V6 l6 ⟨r6, hv, h6⟩ => ⟨r6, hv, ?_⟩
   exact (x02 h6 (I05 (g0p h) (S0d (z00 k))) (by omega)).mono fun v V7 _ hv => ⟨_, hv, rfl⟩
theorem U0b {V : View} {s t : Sk} (h : s.ok) (k : t.ok) : a00 prog n0e #[s.v.val, t.v.val] V fun v _ => v = .tuple #[(Sk.div s t).v.val, .int .i64 (divE t)] := by
 have a0 : ((FloatKind.f64.format.order (Y00 t.lo) 0 == some .lt) || (FloatKind.f64.format.order (Y00 t.lo) 0 == some .eq)) = decide (t.lo ≤ 0) := leK k.lo D0a
 have b0 : ((FloatKind.f64.format.order (Y00 t.hi) 0 == some .gt) || (FloatKind.f64.format.order (Y00 t.hi) 0 == some .eq)) = decide (0 ≤ t.hi) := geK k.hi D0a
 have hp := M0d (g0p h) (S0d (z00 k))
 have z2 : ∀ x ∈ Es.prods s.set (Es.inv t.set), x.num.sz ≤ 2 ^ 38 := fun x hx => Nat.le_trans (hp x hx) (by omega)
 have main : ∀ {V : View}, ¬ (t.lo ≤ 0 ∧ 0 ≤ t.hi) → a00 prog y08 #[.float .f64 (Y00 s.lo)] V fun v V1 => ∃ r1 : BdV, v = r1.val ∧ a00 prog y08 #[.float .f64 (Y00 s.hi)] V1 fun v V2 => ∃ r2 : BdV, v = r2.val ∧
  a00 prog y08 #[.float .f64 (Y00 t.hi)] V2 fun v V3 => ∃ r3 : BdV, v = r3.val ∧ a00 prog z08 #[r3.val] V3 fun v V4 => ∃ r4 : BdV, v = r4.val ∧
  a00 prog y08 #[.float .f64 (Y00 t.lo)] V4 fun v V5 => ∃ r5 : BdV, v = r5.val ∧ a00 prog z08 #[r5.val] V5 fun v V6 => ∃ r6 : BdV, v = r6.val ∧
  a00 prog Q09 #[r1.val, r2.val, r4.val, r6.val] V6 fun v V7 => ∃ r7 : Sl, v = r7.v ∧ a00 prog H0c #[r7.v] V7 fun v V8 => ∃ r8 : BdV, v = r8.val ∧
  a00 prog E06 #[r7.v] V8 fun v V9 => ∃ r9 : BdV, v = r9.val ∧ a00 prog G0c #[r8.val, r9.val] V9 fun v _ => ∃ r10 : SpV, v = r10.val ∧
  Value.tuple #[r10.val, .int .i64 0] = .tuple #[(Sk.div s t).v.val, .int .i64 (divE t)] := by
  intro V hc
  unfold Sk.div divE; rw [if_neg hc, if_neg hc]
  refine (j00 h.lo).mono fun v V1 l1 ⟨r1, hv, h1⟩ => ⟨r1, hv, (j00 h.hi).mono fun v V2 l2 ⟨r2, hv, h2⟩ => ⟨r2, hv, ?_⟩⟩
  refine (j00 k.hi).mono fun v V3 l3 ⟨r3, hv, h3⟩ => ⟨r3, hv, (e09 h3 (Nat.le_trans (z00 k).2 (by omega))).mono fun v V4 l4 ⟨r4, hv, h4⟩ => ⟨r4, hv, ?_⟩⟩
  refine (j00 k.lo).mono fun v V5 l5 ⟨r5, hv, h5⟩ => ⟨r5, hv, (e09 h5 (Nat.le_trans (z00 k).1 (by omega))).mono fun v V6 l6 ⟨r6, hv, h6⟩ => ⟨r6, hv, ?_⟩⟩
  have L6 := View.le_trans l3 (View.le_trans l4 (View.le_trans l5 l6))
  refine (J07 (x := s.set) (y := Es.inv t.set) (h1.le (View.le_trans l2 L6)) (h2.le L6) (h4.le (View.le_trans l5 l6)) h6 (g0p h) (S0d (z00 k)) (by omega)).mono fun v V7 l7 ⟨q, hv, hq⟩ => ⟨q, hv, ?_⟩
  refine (L06 hq (n01 _ _) (by simp [Es.prods]) z2).mono fun v V8 l8 ⟨r8, hv, h8⟩ => ⟨r8, hv, ?_⟩
  refine (d05 (hq.le l8) (n01 _ _) (by simp [Es.prods]) z2).mono fun v V9 l9 ⟨r9, hv, h9⟩ => ⟨r9, hv, ?_⟩
  exact (T03 (h8.le l9) h9 (Nat.le_trans (e08 (n01 _ _) hp) (by omega)) (Nat.le_trans (e08 (n01 _ _) hp) (by omega))).mono fun v V10 _ hv => ⟨_, hv, rfl⟩
 refine p0d s.v t.v V _ ⟨fun hc => ⟨fun hd => ?_, fun hd => ?_⟩, fun hc => ?_⟩
 · have hc : t.lo ≤ 0 := of_decide_eq_true (a0 ▸ hc)
   have hd : 0 ≤ t.hi := of_decide_eq_true (b0 ▸ hd)
   unfold Sk.div divE; rw [if_pos ⟨hc, hd⟩, if_pos ⟨hc, hd⟩, Y0b]
 · have hd : ¬ 0 ≤ t.hi := of_decide_eq_false (b0 ▸ hd)
   exact main fun g => hd g.2
 · have hc : ¬ t.lo ≤ 0 := of_decide_eq_false (a0 ▸ hc)
   exact main fun g => hc g.1
theorem S0v : 2 ≤ topQ := by unfold topQ; decide +kernel
theorem T0v {k : Int} (h : k < (infR : Int)) : fkq k < topQ * topQ := by
 have i1 : 1 ≤ infR := by decide
 have h1 : fkq k ≤ topQ := l0h (show k ≤ ((infR - 1 : Nat) : Int) by omega)
 have t := S0v
 have := Rat.mul_le_mul_of_nonneg_left t (show (0 : Rat) ≤ topQ by grind)
 grind
theorem B0u.is {e : Eb} (he : e.inf = 0) (x0 : 0 ≤ e.x) {r : Nat} {up : Int} (h : B0u e.x r up) : X02 e (Eb.fin 0) false r ∧ ∃ l : Nat, up = l ∧ X02 e (Eb.fin 0) true l := by
 obtain ⟨h1, h2⟩ := h
 have n0 : e.x * e.x + (Eb.fin 0).x * (Eb.fin 0).x = e.x * e.x := by show e.x * e.x + 0 * 0 = _; grind
 have c1 : ¬ (0 < e.inf ∨ (Eb.fin 0).inf ≠ 0) := by rw [he]; rintro (g | g); exact absurd g (by decide); exact g rfl
 have c2 : ¬ e.inf < 0 := by omega
 have eqv : ∀ q, 0 ≤ q → (sqP e.x q ↔ rtP e.x (e.x * e.x) q) := by
  intro q q0
  unfold sqP rtP
  constructor
  · intro g
    by_cases d : rtD e.x q < 0
    · exact .inl d
    · exact .inr (F0a (by grind) (by unfold rtD; grind))
  · rintro (g | g)
    · unfold rtD at g; grind
    · have := f0j x0 g
      unfold rtD at this; grind
 have t := h1.congr eqv
 have zz : rtC e.x (e.x * e.x) (fkq (r : Int)) = 0 ↔ fkq (r : Int) * fkq (r : Int) = e.x := by
  rw [k0u]
  constructor
  · rintro ⟨g1, g2⟩
    have a := f0j x0 (show rtD e.x (fkq (r : Int)) * rtD e.x (fkq (r : Int)) ≤ e.x * e.x by grind)
    have b := f0j g1 (show e.x * e.x ≤ rtD e.x (fkq (r : Int)) * rtD e.x (fkq (r : Int)) by grind)
    unfold rtD at a b; grind
  · intro g
    have : rtD e.x (fkq (r : Int)) = e.x := by unfold rtD; grind
    rw [this]; exact ⟨x0, rfl⟩
 refine ⟨?_, ?_⟩
 · unfold X02; rw [if_neg c1, if_neg c2, n0]
   exact ⟨r, t, by rw [if_neg (fun g => absurd g.1 (by decide))]⟩
 · by_cases d : fkq (r : Int) * fkq (r : Int) = e.x
   · rw [if_pos d] at h2
     refine ⟨r, h2, ?_⟩
     unfold X02; rw [if_neg c1, if_neg c2, n0]
     exact ⟨r, t, by rw [if_neg (fun g => g.2 (zz.2 d))]⟩
   · rw [if_neg d] at h2
     refine ⟨r + 1, h2, ?_⟩
     unfold X02; rw [if_neg c1, if_neg c2, n0]
     exact ⟨r, t, by rw [if_pos ⟨rfl, fun g => d (zz.1 g)⟩]⟩
theorem i0p {k : Int} (h : inK k) (h1 : k ≠ (infR : Int)) (h2 : k ≠ -(infR : Int)) : endE k = ⟨0, fkq k⟩ := by unfold endE; rw [if_neg h1, if_neg h2]
theorem J0a {V : View} {s : Sk} (h : s.ok) (p : s.proper) : a00 prog k0d #[s.v.val] V fun v _ => ∃ t : Sk, v = .tuple #[t.v.val, .int .i64 (if s.lo < 0 then 1 else 0)] ∧ B0b s t := by
 have l0 := lt0K h.lo
 obtain ⟨p1, p2, p3⟩ := p
 have ip : (0 : Int) < (infR : Int) := by decide
 refine k0c s.v V _ ⟨fun hc => ?_, fun hc => ?_⟩
 · have hc : s.lo < 0 := of_decide_eq_true (l0 ▸ hc)
   exact ⟨Sk.nil, by rw [if_pos hc, Y0b], by unfold B0b; rw [if_pos hc]⟩
 have hc : ¬ s.lo < 0 := of_decide_eq_false (l0 ▸ hc)
 have hl := h.lo; have hh := h.hi; unfold inK at hl hh
 have root : ∀ {V : View} {r : BdV} {k : Int}, inK k → 0 ≤ k → k ≠ (infR : Int) → BqAt V r (endE k) → a00 prog u0e #[r.x.val] V fun v V' => ∃ (m : Nat) (up : Nat), v = .tuple #[.float .f64 (Y00 (m : Int)), .float .f64 (Y00 (up : Int))] ∧ X02 (endE k) (Eb.fin 0) false m ∧ X02 (endE k) (Eb.fin 0) true up := by
  intro V r k hk k0 k1 hr
  have e := i0p hk k1 (by omega)
  have f0 : 0 ≤ fkq k := by have := l0h k0; rw [a08] at this; exact this
  have hn := hr.num
  rw [e] at hn ⊢
  refine (y0g hn f0 (Nat.le_trans (S0l hk) (by omega)) (T0v (by unfold inK at hk; omega))).mono fun v V1 _ ⟨m, up, hv, hq⟩ => ?_
  obtain ⟨a, l, b, c⟩ := B0u.is (e := ⟨0, fkq k⟩) rfl f0 hq
  exact ⟨m, l, by rw [hv, b], a, c⟩
 refine (j00 h.lo).mono fun v V1 l1 ⟨r1, hv, h1⟩ => ⟨r1, hv, (root h.lo (by omega) (by omega) h1).mono fun v V2 l2 ⟨m, um, hv, hm, _⟩ => ⟨_, _, hv, g0a.mono fun v V3 l3 hv => ⟨_, hv, ?_⟩⟩⟩
 refine (j00 h.hi).mono fun v V4 l4 ⟨r5, hv, h5⟩ => ⟨r5, hv, fun hd => ?_, fun hd => ?_⟩
 · have hd : s.hi ≠ (infR : Int) := by
     intro g
     have : r5.inf = (endE s.hi).inf := h5.inf
     rw [this, g] at hd
     have e1 : (endE (infR : Int)).inf = 1 := by unfold endE; rw [if_pos rfl]
     rw [e1] at hd; exact absurd hd (by decide)
   refine (j00 h.hi).mono fun v V5 l5 ⟨r6, hv, h6⟩ => ⟨r6, hv, (root h.hi (by omega) hd h6).mono fun v V6 l6 ⟨m2, u2, hv, _, hu⟩ => ⟨_, _, hv, ⟨(m : Int), (u2 : Int)⟩, ?_, ?_⟩⟩
   · rw [if_neg hc]; rfl
   · unfold B0b; rw [if_neg hc]; exact ⟨m, u2, rfl, hm, hu⟩
 · have hd : s.hi = (infR : Int) := by
     refine Classical.byContradiction fun g => ?_
     have : r5.inf = (endE s.hi).inf := h5.inf
     rw [this, i0p h.hi g (by omega)] at hd
     exact absurd hd (by simp)
   refine ⟨⟨(m : Int), (infR : Int)⟩, ?_, ?_⟩
   · rw [if_neg hc]; rfl
   · unfold B0b; rw [if_neg hc]
     refine ⟨m, infR, rfl, hm, ?_⟩
     have e1 : (s.set.hi).inf = 1 := by show (endE s.hi).inf = 1; rw [hd]; unfold endE; rw [if_pos rfl]
     unfold X02; rw [if_pos (.inl (by rw [e1]; decide))]
theorem D0j {V : View} {p q : j0c} (h1 : U64 p.lo) (h2 : U64 p.hi) (h3 : U64 q.lo) (h4 : U64 q.hi) : a00 prog m0e #[p.val, q.val] V fun v _ => v = .bool true := by
 refine o0d p q V _ (c0r.mono fun v V1 _ hv => ⟨_, hv, fun h => absurd h (by decide), fun _ => ?_⟩)
 refine (j0a h1 h2).mono fun v V2 _ ⟨s, cs, hs, ps, hv⟩ => ⟨_, _, _, hv, ?_⟩
 refine (j0a h3 h4).mono fun v V3 _ ⟨t, ct, ht, pt, hv⟩ => ⟨_, _, _, hv, fun _ => rfl, fun g1 => ⟨fun _ => rfl, fun g2 => ?_⟩⟩
 have ps := ps (by simpa using g1)
 have pt := pt (by simpa using g2)
 have no : ∀ {P : Prop}, true = false → P := fun h => absurd h (by decide)
 have is : ∀ {V : View} {r : SpV} {C : View → Prop} {D : View → Prop}, (∀ V', View.le V V' → C V') → a00 prog W0a #[r.val, r.val] V fun v V' => ∃ b : Bool, v = .bool b ∧ (b = true → C V') ∧ (b = false → D V') := by
  intro V r C D hC
  refine (g0f r r).mono fun v V' l hv => ⟨_, hv, fun _ => hC V' l, fun g => absurd g (by simp)⟩
 refine (C0j hs ht).mono fun v V4 _ hv => ⟨_, _, hv, (U0b hs ht).mono fun v V5 _ hv => ⟨_, _, hv, ?_⟩⟩
 refine (z0g hs).mono fun v V6 _ ⟨u, hv, hu⟩ => ⟨_, _, hv, (J0a hs ps).mono fun v V7 _ ⟨u', hv, hu'⟩ => ⟨_, _, hv, ?_⟩⟩
 have := hu.unique hu'
 subst this
 refine (u0j hs ht).mono fun v V8 _ hv => ⟨_, hv, (O0b hs ht).mono fun v V9 _ hv => ⟨_, hv, is fun V10 _ => ?_⟩⟩
 refine (w0j hs ht).mono fun v V11 _ hv => ⟨_, hv, (P0b hs ht).mono fun v V12 _ hv => ⟨_, hv, is fun V13 _ => ?_⟩⟩
 refine (z0j hs ht).mono fun v V14 _ hv => ⟨_, hv, (S0b hs ht).mono fun v V15 _ hv => ⟨_, hv, is fun V16 _ => ?_⟩⟩
 refine ⟨fun _ => is fun V17 _ => ?_, fun g => absurd g (by simp)⟩
 refine (E0d hs).mono fun v V18 _ hv => ⟨_, hv, (d09 hs).mono fun v V19 _ hv => ⟨_, hv, is fun V20 _ => ?_⟩⟩
 refine ⟨fun _ => (g0f _ _).mono fun v V21 _ hv => ⟨_, hv, by simp⟩, fun g => absurd g (by simp)⟩
