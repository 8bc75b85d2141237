/- Part. -/
import Derived.Test.YtkibfmnkkiakoaaGreatPartD
import Derived.Laws.StructEq
namespace Go.Proofs.YtkibfmnkkiakoaaGreat
open Go Go.Vc Go.Proofs
open Go.Proofs.Tryz (prog)
open Go.IntKind (i64 u64 u32 u8)
theorem T09 (a b : Rat) : (⟨a, 0⟩ : Cq) * ⟨b, 0⟩ = ⟨a * b, 0⟩ := Cq.ext' (by rw [J06]; grind) (by rw [K06]; grind)
theorem y0c (a b : Rat) : (⟨a, 0⟩ : Cq) + ⟨b, 0⟩ = ⟨a + b, 0⟩ := Cq.ext' (by rw [g09]) (by rw [i09]; grind)
theorem n0h (a : Rat) : -(⟨a, 0⟩ : Cq) = ⟨-a, 0⟩ := Cq.ext' (by rw [U0b]) (by rw [W0b]; grind)
theorem K0u (x : Nat) : fq x = fkq (key x) := rfl
theorem G0v : fq 0 = 0 := by
 unfold fq
 have : kz (key 0) = 0 := by decide
 rw [this]; rw [Rat.div_def]; exact Rat.zero_mul _
structure BdAt (V : View) (b : BdV) (e : Eb) : Prop where
 inf : b.inf = e.inf
 num : S01 V b.x e.num
 ok : e.ok
theorem BdAt.le {V V' : View} {b : BdV} {e : Eb} (hle : V.le V') (h : BdAt V b e) : BdAt V' b e := ⟨h.inf, h.num.le hle, h.ok⟩
theorem BdAt.range {V : View} {b : BdV} {e : Eb} (h : BdAt V b e) : e.inf = 0 ∨ e.inf = 1 ∨ e.inf = -1 := by
 rcases h.ok with h | ⟨_, h⟩
 · exact .inl h
 · exact .inr h
theorem BdAt.zero (V : View) : BdAt V (BdV.mk 0 (NumV.mk (WhV.mk false (Sl.mk none 0 0)) (WhV.mk false (Sl.mk none 0 0)) (Sl.mk none 0 0))) (Eb.fin 0) := ⟨rfl, S01.zero V, .inl rfl⟩
theorem BdAt.infty (V : View) {i : Int} (h : i = 1 ∨ i = -1) : BdAt V (BdV.mk i (NumV.mk (WhV.mk false (Sl.mk none 0 0)) (WhV.mk false (Sl.mk none 0 0)) (Sl.mk none 0 0))) ⟨i, 0⟩ := ⟨rfl, S01.zero V, .inr ⟨rfl, h⟩⟩
theorem BdAt.signs (V : View) {i : Int} (h : (⟨i, 0⟩ : Eb).ok) : BdAt V (BdV.mk i (NumV.mk (WhV.mk false (Sl.mk none 0 0)) (WhV.mk false (Sl.mk none 0 0)) (Sl.mk none 0 0))) ⟨i, 0⟩ := ⟨rfl, S01.zero V, h⟩
theorem K0s {r : Nat} (h : r ≤ infR) : rm r < 2 ^ 2099 := by
 have h1 : rm r ≤ rm infR := N08.2 h
 obtain ⟨e, he⟩ : ∃ e, e = 2046 := ⟨_, rfl⟩
 rw [G0e he] at h1
 exact Nat.lt_of_le_of_lt h1 (Q0r (a := 52 + e) (b := 2099) (by omega))
theorem e09 (D : Nat) : (0 : Rat) = ((0 : Int) : Rat) / (D : Rat) := by simp [Rat.div_def]
theorem Y0e {k : Int} (h : inK k) : (⟨fkq k, 0⟩ : Cq).sz ≤ 2100 := by
 have R : Rep ⟨fkq k, 0⟩ (kz k) 0 (2 ^ 1074) := ⟨H0s, rfl, e09 _⟩
 have hk : (kz k).natAbs = rm k.natAbs := by unfold kz; split <;> omega
 refine R.sz ?_ (by simp [Y05]) ?_
 · rw [hk]
   have h2 : k.natAbs ≤ infR := by unfold inK at h; omega
   have := I02 (K0s h2)
   omega
 · have := Z01 1074; omega
theorem M0a {k : Int} (h : inK k) : (endE k).num.sz ≤ 2100 := by
 have z : (Cq.zero).sz ≤ 2100 := Nat.le_trans b04 (by omega)
 unfold endE Eb.num
 split
 · exact z
 · split
   · exact z
   · exact Y0e h
theorem Z0e {V : View} {x : Nat} (h : finW x) : a00 prog p0m #[.float .f64 x] V fun v V' => ∃ r : NumV, v = r.val ∧ S01 V' r ⟨fkq (key x), 0⟩ := by
 refine G0k x V _ ((n0l (c := CxV.mk x 0) h (show finW 0 from ⟨by decide, by decide⟩)).mono fun v V1 _ ⟨r, hv, hr⟩ => ⟨r, 0, hv, r, rfl, ?_⟩)
 have hr : S01 V1 r ⟨fq x, fq 0⟩ := hr
 rw [G0v, K0u] at hr; exact hr
theorem t0o {V : View} {x : Nat} (h : okW x) : a00 prog o0r #[.float .f64 x] V fun v V' => ∃ b : BdV, v = b.val ∧ BdAt V' b (endE (key x)) := by
 have hk := A0s h
 refine X0p x V _ ((J0d h.1).mono fun v V1 _ hv => ⟨_, hv, fun hc => ?_, fun hc => ?_⟩)
 · have hc : key x = (infR : Int) := by simp only [decide_eq_true_eq] at hc; exact hc.2
   refine ⟨_, rfl, ?_⟩
   unfold endE; rw [if_pos hc]; exact .infty V1 (.inl rfl)
 have hc : key x ≠ (infR : Int) := by simp only [decide_eq_false_iff_not] at hc; exact fun e => hc ⟨h, e⟩
 refine (H09 h.1).mono fun v V2 _ hv => ⟨_, hv, fun hd => ?_, fun hd => ?_⟩
 · have hd : key x = -(infR : Int) := by simp only [decide_eq_true_eq] at hd; exact hd.2
   refine ⟨_, rfl, ?_⟩
   unfold endE; rw [if_neg hc, if_pos hd]; exact .infty V2 (.inr rfl)
 have hd : key x ≠ -(infR : Int) := by simp only [decide_eq_false_iff_not] at hd; exact fun e => hd ⟨h, e⟩
 have hf : finW x := by
  refine ⟨h.1, ?_⟩
  have a := F0i h.1
  have : (key x).natAbs < infR := by omega
  omega
 refine (Z0e hf).mono fun v V3 _ ⟨r, hv, hr⟩ => ⟨r, hv, _, rfl, ?_⟩
 unfold endE; rw [if_neg hc, if_neg hd]; exact ⟨rfl, hr, .inl rfl⟩
theorem c0d {V : View} (a b : Int) : a00 prog e0b #[.int .i64 a, .int .i64 b] V fun v _ => v = .int .i64 (cmpZ a b) := by
 have nan : ∀ {V : View} (a : Int), a00 prog k0d #[.int .i64 a] V fun v _ => v = .bool false := fun a => k0c a _ _ (by simp)
 refine E0a a b V _ ((nan a).mono fun v V1 _ hv => ⟨_, hv, (nan b).mono fun v V2 _ hv => ⟨_, hv, fun h => absurd h (by simp), fun _ => ⟨fun h => absurd h (by simp), fun _ => ⟨fun h => ?_, fun h => ⟨fun h' => ?_, fun h' => ?_⟩⟩⟩⟩⟩)
 · rw [J0a (by simpa using h)]
 · rw [C0e (by simpa using h')]
 · simp only [decide_eq_false_iff_not] at h h'
   rw [D0i (by omega)]
theorem o0n (x y : Rat) : (⟨x, 0⟩ : Cq).cmp ⟨y, 0⟩ = cmpR x y := by
 unfold Cq.cmp
 dsimp only
 by_cases c : cmpR x y = 0
 · rw [c]; rw [if_neg (by simp)]; unfold cmpR; rw [if_neg (by grind), if_pos rfl]
 · rw [if_pos c]
theorem z03 {V : View} {a b : BdV} {e f : Eb} (ha : BdAt V a e) (hb : BdAt V b f) (hz : e.num.sz ≤ 2 ^ 40) (hw : f.num.sz ≤ 2 ^ 40) :
 a00 prog Z0l #[a.val, b.val] V fun v _ => v = .int .i64 (e.cmp f) := by
 have ia := ha.inf
 have ib := hb.inf
 refine H0k a b V _ ⟨fun h => ?_, fun h => ⟨fun h' => ?_, fun h' => ?_⟩⟩
 · have h : e.inf ≠ 0 := by rw [← ia]; simpa using h
   refine (c0d a.inf b.inf).mono fun v V1 _ hv => ⟨_, hv, ?_⟩
   unfold Eb.cmp; rw [if_pos (.inl h), ia, ib]
 · have h' : f.inf ≠ 0 := by rw [← ib]; simpa using h'
   refine (c0d a.inf b.inf).mono fun v V1 _ hv => ⟨_, hv, ?_⟩
   unfold Eb.cmp; rw [if_pos (.inr h'), ia, ib]
 · have h : e.inf = 0 := by rw [← ia]; simpa using h
   have h' : f.inf = 0 := by rw [← ib]; simpa using h'
   refine (Z08 ha.num hb.num hz hw).mono fun v V1 _ hv => ⟨_, hv, ?_⟩
   unfold Eb.cmp; rw [if_neg (by rw [h, h']; simp)]
   exact congrArg _ (o0n e.x f.x)
theorem c0j : (Eb.fin 0).num.sz ≤ 1 := b04
theorem K02 {V : View} {a : BdV} {e : Eb} (ha : BdAt V a e) (hz : e.num.sz ≤ 2 ^ 40) : a00 prog C08 #[a.val] V fun v _ => v = .int .i64 e.sign :=
 q0i a V _ ((z03 ha (BdAt.zero V) hz (Nat.le_trans c0j (by decide))).mono fun v V1 _ hv => ⟨_, hv, rfl⟩)
theorem Y00 {V : View} {a : BdV} {e : Eb} (ha : BdAt V a e) : a00 prog e0m #[a.val] V fun v V' => ∃ b : BdV, v = b.val ∧ BdAt V' b e.neg := by
 refine I0k a V _ ((Y0c ha.num).mono fun v V1 _ ⟨r, hv, hr⟩ => ⟨r, hv, _, rfl, ?_⟩)
 have ia := ha.inf
 have hr' := ha.range
 have e1 : i64.wrap (0 - a.inf) = -e.inf := by rw [i64w (by omega) (by omega)]; omega
 refine ⟨e1, ?_, Eb.neg_ok ha.ok⟩
 have : -e.num = e.neg.num := n0h e.x
 rw [← this]; exact hr
theorem p0a {V : View} {a b : BdV} {e f : Eb} (ha : BdAt V a e) (hb : BdAt V b f) (hz : e.num.sz ≤ 2 ^ 40) (hw : f.num.sz ≤ 2 ^ 40) :
 a00 prog l0m #[a.val, b.val] V fun v V' => ∃ c : BdV, v = c.val ∧ BdAt V' c (e.add f) := by
 have ia := ha.inf
 have ib := hb.inf
 refine J0k a b V _ ⟨fun h => ?_, fun h => ⟨fun h' => ?_, fun h' => ?_⟩⟩
 · have h : e.inf ≠ 0 := by rw [← ia]; simpa using h
   refine ⟨a, rfl, ?_⟩
   unfold Eb.add; rw [if_pos h]; exact ha
 · have h : e.inf = 0 := by rw [← ia]; simpa using h
   have h' : f.inf ≠ 0 := by rw [← ib]; simpa using h'
   refine ⟨b, rfl, ?_⟩
   unfold Eb.add; rw [if_neg (by rw [h]; simp), if_pos h']; exact hb
 · have h : e.inf = 0 := by rw [← ia]; simpa using h
   have h' : f.inf = 0 := by rw [← ib]; simpa using h'
   refine (Y06 ha.num hb.num hz hw).mono fun v V1 _ ⟨r, hv, hr⟩ => ⟨r, hv, _, rfl, ?_⟩
   unfold Eb.add; rw [if_neg (by rw [h]; simp), if_neg (by rw [h']; simp)]
   refine ⟨rfl, ?_, .inl rfl⟩
   have : e.num + f.num = (⟨0, e.x + f.x⟩ : Eb).num := y0c e.x f.x
   rw [← this]; exact hr
theorem A05 {V : View} {a b : BdV} {e f : Eb} (ha : BdAt V a e) (hb : BdAt V b f) (hz : e.num.sz ≤ 2 ^ 40) (hw : f.num.sz ≤ 2 ^ 40) :
 a00 prog k0m #[a.val, b.val] V fun v V' => ∃ c : BdV, v = c.val ∧ BdAt V' c (e.mul f) := by
 have ia := ha.inf
 have ib := hb.inf
 have key : ¬ (e.inf = 0 ∧ f.inf = 0) → ∀ {W : View}, V.le W → a00 prog C08 #[a.val] W fun v V2 => ∃ r2 : Int, v = .int .i64 r2 ∧ a00 prog C08 #[b.val] V2 fun v V3 => ∃ r3 : Int, v = .int .i64 r3 ∧
  ∃ c : BdV, (BdV.mk (i64.wrap (r2 * r3)) (NumV.mk (WhV.mk false (Sl.mk none 0 0)) (WhV.mk false (Sl.mk none 0 0)) (Sl.mk none 0 0))).val = c.val ∧ BdAt V3 c (e.mul f) := by
  intro hn W hle
  refine (K02 (ha.le hle) hz).mono fun v V2 l2 hv => ⟨_, hv, (K02 (hb.le (View.le_trans hle l2)) hw).mono fun v V3 _ hv => ⟨_, hv, _, rfl, ?_⟩⟩
  have r1 : e.sign = -1 ∨ e.sign = 0 ∨ e.sign = 1 := Eb.cmp_range _ _
  have r2 : f.sign = -1 ∨ f.sign = 0 ∨ f.sign = 1 := Eb.cmp_range _ _
  have hm := Eb.mul_ok e f
  unfold Eb.mul at hm ⊢
  rw [if_neg hn] at hm ⊢
  have : i64.wrap (e.sign * f.sign) = e.sign * f.sign := by
   rcases r1 with r1 | r1 | r1 <;> rcases r2 with r2 | r2 | r2 <;> rw [r1, r2] <;> decide
  rw [this]; exact .signs V3 hm
 refine K0k a b V _ ⟨fun h => ⟨fun h' => ?_, fun h' => ?_⟩, fun h => ?_⟩
 · have h : e.inf = 0 := by rw [← ia]; simpa using h
   have h' : f.inf = 0 := by rw [← ib]; simpa using h'
   refine (Z02 ha.num hb.num hz hw).mono fun v V1 _ ⟨r, hv, hr⟩ => ⟨r, hv, _, rfl, ?_⟩
   unfold Eb.mul; rw [if_pos ⟨h, h'⟩]
   refine ⟨rfl, ?_, .inl rfl⟩
   have : e.num * f.num = (⟨0, e.x * f.x⟩ : Eb).num := T09 e.x f.x
   rw [← this]; exact hr
 · have h' : f.inf ≠ 0 := by rw [← ib]; simpa using h'
   exact key (fun g => h' g.2) (View.le_refl V)
 · have h : e.inf ≠ 0 := by rw [← ia]; simpa using h
   exact key (fun g => h g.1) (View.le_refl V)
theorem I04 (e : Eb) : e.neg.num.sz = e.num.sz := by
 have : -e.num = e.neg.num := n0h e.x
 rw [← this]; exact j09 _
theorem K09 (e f : Eb) : (e.add f).num.sz ≤ e.num.sz + f.num.sz + 1 := by
 unfold Eb.add; split
 · omega
 · split
   · omega
   · have : e.num + f.num = (⟨0, e.x + f.x⟩ : Eb).num := y0c e.x f.x
     rw [← this]; exact S05 _ _
theorem L09 (e f : Eb) : (e.mul f).num.sz ≤ e.num.sz + f.num.sz + 1 := by
 unfold Eb.mul; split
 · have : e.num * f.num = (⟨0, e.x * f.x⟩ : Eb).num := T09 e.x f.x
   rw [← this]; exact T01 _ _
 · exact Nat.le_trans b04 (by omega)
def bdC (V : View) (x : List Value) (e : Eb) : Prop := ∃ b : BdV, x = b.val.cells.toList ∧ BdAt V b e
theorem bdC.le {V V' : View} (hle : V.le V') (x : List Value) (e : Eb) (h : bdC V x e) : bdC V' x e := by
 obtain ⟨b, e1, hb⟩ := h; exact ⟨b, e1, hb.le hle⟩
def d0g (V : View) (s : Sl) (es : List Eb) : Prop := P02 6 bdC V s es
theorem d0g.le {V V' : View} (hle : V.le V') {s : Sl} {es : List Eb} (h : d0g V s es) : d0g V' s es := P02.le (bdC.le hle) hle h
theorem t0q {V : View} {a b : BdV} {e f : Eb} {p : Option Addr} {way : Int} (ha : BdAt V a e) (hb : BdAt V b f) (hz : e.num.sz ≤ 2 ^ 40) (hw : f.num.sz ≤ 2 ^ 40) (hp : V.load p = some (.int .i64 way)) :
 a00 prog Z0j #[a.val, b.val, .pointer p] V fun v _ => v = .bool (decide (e.cmp f = way)) :=
 s0i a b p V _ ⟨way, hp, (z03 ha hb hz hw).mono fun v V1 _ hv => ⟨_, hv, by
  congr 1⟩⟩
theorem K0b (way : Int) : ∀ {es : List Eb} {i : Nat} (h : i + 1 < es.length), Eb.pick way (es.take (i + 2)) = if Eb.cmp es[i + 1] (Eb.pick way (es.take (i + 1))) = way then es[i + 1] else Eb.pick way (es.take (i + 1))
 | [], _, h => by simp at h
 | e :: es, i, h => by
   have hi : i < es.length := by simpa using h
   have e1 : (e :: es).take (i + 2) = e :: es.take (i + 1) := rfl
   have e2 : (e :: es).take (i + 1) = e :: es.take i := rfl
   have e3 : es.take (i + 1) = es.take i ++ [es[i]] := by rw [List.take_add_one]; simp [hi]
   have e4 : (e :: es)[i + 1] = es[i] := rfl
   rw [e1, e2, e3, e4]
   show List.foldl _ e (es.take i ++ [es[i]]) = _
   rw [List.foldl_append]; rfl
theorem g0u (a : Option Addr) (k : Nat) : Option.map (fun q => Addr.add q (Int.toNat (k : Int) * 6)) (Option.map (fun q => Addr.add q (Int.toNat 1 * 6)) a) = Option.map (fun q => Addr.add q ((k + 1) * 6)) a := by
 rw [Option.map_map]
 congr 1
 funext q
 show (q.add (Int.toNat 1 * 6)).add (Int.toNat (k : Int) * 6) = _
 rw [S0k, Int.toNat_natCast]
 congr 1
 show 1 * 6 + k * 6 = (k + 1) * 6
 omega
theorem o0l {V : View} {s : Sl} {es : List Eb} {way : Int} (h : d0g V s es) (h0 : es ≠ []) (hn : es.length ≤ 2 ^ 32) (hS : ∀ e ∈ es, e.num.sz ≤ 2 ^ 40) :
 a00 prog p0p #[.int .i64 way, s.v] V fun v V' => ∃ b : BdV, v = b.val ∧ BdAt V' b (Eb.pick way es) := by
 have hl := h.len
 have hcap := h.cap
 have h1 : 1 ≤ es.length := by
  rcases Nat.eq_zero_or_pos es.length with c | c
  · exact absurd (List.eq_nil_of_length_eq_zero c) h0
  · exact c
 refine S0m way s V _ (fun _ x V' => ∃ i : Nat, x.t16 = i ∧ i + 1 ≤ es.length ∧ BdAt V' x.o6 (Eb.pick way (es.take (i + 1))) ∧ (Eb.pick way (es.take (i + 1))).num.sz ≤ 2 ^ 40) (fun _ x _ => (es.length - x.t16).toNat) ?_
 intro b1 V1 l1 hb1
 obtain ⟨hb, x, ⟨b0, hx, hb0⟩, _, hh, hs⟩ := P02.get (h.le l1) (t := 0) (by omega) (z := es[0]) (by simp)
 refine ⟨hb, b0, hx ▸ hh, hs, ⟨by omega, by omega, by omega⟩, ⟨0, rfl, h1, ?_, ?_⟩, ?_⟩
 · have : es.take (0 + 1) = [es[0]] := by
     cases es with
     | nil => simp at h1
     | cons e es => simp
   rw [this]; exact hb0
 · have : es.take (0 + 1) = [es[0]] := by
     cases es with
     | nil => simp at h1
     | cons e es => simp
   rw [this]; exact hS _ (List.getElem_mem _)
 rintro ⟨t, o4, o6⟩ V2 l2 ⟨i, rfl, hi, ho, hz⟩
 dsimp only at ho hz ⊢
 have hlen : ((((((s.len : Nat) : Int)).toNat - Int.toNat 1 : Nat) : Int)) = (es.length : Int) - 1 := by rw [Int.toNat_natCast, hl]; show ((es.length - 1 : Nat) : Int) = _; omega
 rw [hlen]
 refine ⟨fun hlt => ?_, fun hge => ?_⟩
 · simp only [decide_eq_true_eq] at hlt
   have hi2 : i + 1 < es.length := by omega
   have hc1 : ¬ s.cap = Int.toNat 1 := by show ¬ s.cap = 1; omega
   rw [if_neg hc1, g0u]
   obtain ⟨hb', x', ⟨b', hx', hb''⟩, _, hh', hs'⟩ := P02.get (h.le (View.le_trans l1 l2)) (t := ((i + 1 : Nat) : Int)) (by omega) (z := es[i + 1]) (by rw [Int.toNat_natCast]; simp [hi2])
   rw [Int.toNat_natCast] at hh' hs'
   have hsm : (Option.map (fun q => Addr.add q (Int.toNat 1 * 6)) s.a).isSome = true := by
    have := hb'.2.2
    rw [Option.isSome_map]; exact this
   refine ⟨⟨by omega, by omega, hsm⟩, b', hx' ▸ hh', hs', ?_⟩
   have hp : V2.load (some (Addr.mk b1 0 none)) = some (.int .i64 way) := m02 l2 (by simp [View.load, hb1])
   refine (t0q hb'' ho (hS _ (List.getElem_mem _)) hz hp).mono fun v V3 l3 hv => ⟨_, hv, fun hc => ?_, fun hc => ?_⟩
   · simp only [decide_eq_true_eq] at hc
     rw [i64w (by omega) (by omega)]
     refine ⟨⟨i + 1, by omega, by omega, ?_, ?_⟩, by omega⟩
     · rw [K0b way hi2, if_pos hc]; exact hb''.le l3
     · rw [K0b way hi2, if_pos hc]; exact hS _ (List.getElem_mem _)
   · simp only [decide_eq_false_iff_not] at hc
     rw [i64w (by omega) (by omega)]
     refine ⟨⟨i + 1, by omega, by omega, ?_, ?_⟩, by omega⟩
     · rw [K0b way hi2, if_neg hc]; exact ho.le l3
     · rw [K0b way hi2, if_neg hc]; exact hz
 · simp only [decide_eq_false_iff_not] at hge
   have : i + 1 = es.length := by omega
   rw [this, List.take_length] at ho
   exact ⟨_, rfl, ho⟩
theorem x0c {V : View} {s : Sl} {es : List Eb} (h : d0g V s es) (h0 : es ≠ []) (hn : es.length ≤ 2 ^ 32) (hS : ∀ e ∈ es, e.num.sz ≤ 2 ^ 40) :
 a00 prog Y0l #[s.v] V fun v V' => ∃ b : BdV, v = b.val ∧ BdAt V' b (Eb.pick (-1) es) :=
 L0k s V _ ((o0l h h0 hn hS).mono fun _ _ _ ⟨b, hv, hb⟩ => ⟨b, hv, b, rfl, hb⟩)
theorem o06 {V : View} {s : Sl} {es : List Eb} (h : d0g V s es) (h0 : es ≠ []) (hn : es.length ≤ 2 ^ 32) (hS : ∀ e ∈ es, e.num.sz ≤ 2 ^ 40) :
 a00 prog q0f #[s.v] V fun v V' => ∃ b : BdV, v = b.val ∧ BdAt V' b (Eb.pick 1 es) :=
 z0e s V _ ((o0l h h0 hn hS).mono fun _ _ _ ⟨b, hv, hb⟩ => ⟨b, hv, b, rfl, hb⟩)
structure EsAt (V : View) (s : SetV) (e : Es) : Prop where
 lo : BdAt V s.lo e.lo
 hi : BdAt V s.hi e.hi
theorem EsAt.le {V V' : View} {s : SetV} {e : Es} (hle : V.le V') (h : EsAt V s e) : EsAt V' s e := ⟨h.lo.le hle, h.hi.le hle⟩
def E01 (e : Es) (S : Nat) : Prop := e.lo.num.sz ≤ S ∧ e.hi.num.sz ≤ S
theorem d0d {V : View} {s : SetV} {e : Es} (h : EsAt V s e) : a00 prog c0r #[s.val] V fun v V' => ∃ r : SetV, v = r.val ∧ EsAt V' r e.neg :=
 Y0p s V _ ((Y00 h.hi).mono fun _ _ l1 ⟨a, hv, ha⟩ => ⟨a, hv, (Y00 (h.lo.le l1)).mono fun _ _ l2 ⟨b, hv, hb⟩ => ⟨b, hv, _, rfl, ha.le l2, hb⟩⟩)
theorem e0d {V : View} {s t : SetV} {e f : Es} (h : EsAt V s e) (k : EsAt V t f) {S : Nat} (he : E01 e S) (hf : E01 f S) (hS : S ≤ 2 ^ 30) :
 a00 prog g0r #[s.val, t.val] V fun v V' => ∃ r : SetV, v = r.val ∧ EsAt V' r (e.add f) :=
 Z0p s t V _ ((p0a h.lo k.lo (by have := he.1; omega) (by have := hf.1; omega)).mono fun v V1 l1 ⟨a, hv, ha⟩ => ⟨a, hv,
  (p0a (h.hi.le l1) (k.hi.le l1) (by have := he.2; omega) (by have := hf.2; omega)).mono fun v V2 l2 ⟨b, hv, hb⟩ => ⟨b, hv, _, rfl, ha.le l2, hb⟩⟩)
theorem u0o {V : View} {b : Nat} {r1 r2 r3 r4 : BdV} {e1 e2 e3 e4 : Eb} (h1 : BdAt V r1 e1) (h2 : BdAt V r2 e2) (h3 : BdAt V r3 e3) (h4 : BdAt V r4 e4)
 (hb : V b = some #[.int .i64 r1.inf, .bool r1.x.re.neg, r1.x.re.mag.v, .bool r1.x.im.neg, r1.x.im.mag.v, r1.x.under.v, .int .i64 r2.inf, .bool r2.x.re.neg, r2.x.re.mag.v, .bool r2.x.im.neg, r2.x.im.mag.v, r2.x.under.v, .int .i64 r3.inf, .bool r3.x.re.neg, r3.x.re.mag.v, .bool r3.x.im.neg, r3.x.im.mag.v, r3.x.under.v, .int .i64 r4.inf, .bool r4.x.re.neg, r4.x.re.mag.v, .bool r4.x.im.neg, r4.x.im.mag.v, r4.x.under.v]) :
 d0g V ⟨some ⟨b, 0, none⟩, 4, 4⟩ [e1, e2, e3, e4] :=
 x0a (o := r1.val.cells.toList ++ (r2.val.cells.toList ++ (r3.val.cells.toList ++ (r4.val.cells.toList ++ [])))) hb
  ⟨_, _, rfl, rfl, ⟨r1, rfl, h1⟩, _, _, rfl, rfl, ⟨r2, rfl, h2⟩, _, _, rfl, rfl, ⟨r3, rfl, h3⟩, _, _, rfl, rfl, ⟨r4, rfl, h4⟩, rfl⟩ rfl
theorem w0o {e f : Es} {S : Nat} (he : E01 e S) (hf : E01 f S) : ∀ x ∈ Es.prods e f, x.num.sz ≤ 2 * S + 1 := by
 intro x hx
 simp only [Es.prods, List.mem_cons, List.not_mem_nil, or_false] at hx
 have a := he.1; have b := he.2; have c := hf.1; have d := hf.2
 rcases hx with rfl | rfl | rfl | rfl
 · have := L09 e.lo f.lo; omega
 · have := L09 e.lo f.hi; omega
 · have := L09 e.hi f.lo; omega
 · have := L09 e.hi f.hi; omega
theorem a0f {way : Int} {es : List Eb} {S : Nat} (h0 : es ≠ []) (h : ∀ e ∈ es, e.num.sz ≤ S) : (Eb.pick way es).num.sz ≤ S := by
 cases es with
 | nil => exact absurd rfl h0
 | cons e es =>
   show (List.foldl (fun o x => if x.cmp o = way then x else o) e es).num.sz ≤ S
   rcases Eb.pick_mem way es e with g | g
   · rw [g]; exact h e (by simp)
   · exact h _ (by simp [g])
theorem Z06 {V : View} {s t : SetV} {e f : Es} (h : EsAt V s e) (k : EsAt V t f) {S : Nat} (he : E01 e S) (hf : E01 f S) (hS : S ≤ 2 ^ 30) :
 a00 prog f0r #[s.val, t.val] V fun v V' => ∃ r : SetV, v = r.val ∧ EsAt V' r (e.mul f) := by
 have a := he.1; have b := he.2; have c := hf.1; have d := hf.2
 have hp := w0o he hf
 have hp40 : ∀ x ∈ Es.prods e f, x.num.sz ≤ 2 ^ 40 := fun x hx => by have := hp x hx; omega
 refine a0q s t V _ ((A05 h.lo k.lo (by omega) (by omega)).mono fun v V1 l1 ⟨r1, hv, h1⟩ => ⟨r1, hv, ?_⟩)
 refine (A05 (h.lo.le l1) (k.hi.le l1) (by omega) (by omega)).mono fun v V2 l2 ⟨r2, hv, h2⟩ => ⟨r2, hv, ?_⟩
 have L2 := View.le_trans l1 l2
 refine (A05 (h.hi.le L2) (k.lo.le L2) (by omega) (by omega)).mono fun v V3 l3 ⟨r3, hv, h3⟩ => ⟨r3, hv, ?_⟩
 have L3 := View.le_trans L2 l3
 refine (A05 (h.hi.le L3) (k.hi.le L3) (by omega) (by omega)).mono fun v V4 l4 ⟨r4, hv, h4⟩ => ⟨r4, hv, fun b1 V5 l5 _ hb1 => ?_⟩
 have g1 := h1.le (View.le_trans l2 (View.le_trans l3 l4))
 have g2 := h2.le (View.le_trans l3 l4)
 have g3 := h3.le l4
 refine (x0c (u0o (g1.le l5) (g2.le l5) (g3.le l5) (h4.le l5) hb1) (by simp) (by simp) hp40).mono fun v V6 l6 ⟨r5, hv, h5⟩ => ⟨r5, hv, fun b2 V7 l7 _ hb2 => ?_⟩
 have L7 := View.le_trans l5 (View.le_trans l6 l7)
 exact (o06 (u0o (g1.le L7) (g2.le L7) (g3.le L7) (h4.le L7) hb2) (by simp) (by simp) hp40).mono fun v V8 l8 ⟨r6, hv, h6⟩ => ⟨r6, hv, _, rfl, h5.le (View.le_trans l7 l8), h6⟩
theorem L0b {V : View} {s : SetV} {e : Es} (h : EsAt V s e) {S : Nat} (he : E01 e S) (hS : S ≤ 2 ^ 30) : a00 prog n0p #[s.val] V fun v _ => v = .bool e.zero := by
 have a := he.1; have b := he.2
 refine T0m s V _ ((K02 h.lo (by omega)).mono fun v V1 l1 hv => ⟨_, hv, fun hc => ?_, fun hc => ?_⟩)
 · refine (K02 (h.hi.le l1) (by omega)).mono fun v V2 _ hv => ⟨_, hv, ?_⟩
   unfold Es.zero; rw [hc]; rfl
 · unfold Es.zero; rw [hc]; rfl
theorem K0d : 18442240474082181120 = k00 (-(infR : Int)) := by decide
theorem x0o : infR = k00 (infR : Int) := by decide
theorem p06 {V : View} {s : SetV} {e : Es} (h : EsAt V s e) {S : Nat} (he : E01 e S) (hS : S ≤ 2 ^ 30) : a00 prog g0p #[s.val] V fun v _ => v = (Sk.v e.span).val := by
 have a := he.1; have b := he.2
 have il := h.lo.inf
 have ih := h.hi.inf
 refine U0m s V _ (m0o.mono fun v V1 l1 hv => ⟨_, hv, a09.mono fun v V2 l2 hv => ⟨_, hv, fun h1 => ?_, fun h1 => ?_⟩⟩)
 · have h1 : e.lo.inf = 0 := by rw [← il]; simpa using h1
   refine (s0q (h.lo.num.le (View.le_trans l1 l2)) (by omega)).mono fun v V3 l3 hv => ⟨_, hv, fun h2 => ?_, fun h2 => ?_⟩
   · have h2 : e.hi.inf = 0 := by rw [← ih]; simpa using h2
     refine (d0h (h.hi.num.le (View.le_trans l1 (View.le_trans l2 l3))) (by omega)).mono fun v V4 l4 hv => ⟨_, hv, ?_⟩
     unfold Es.span Sk.v; rw [if_pos h1, if_pos h2]; rfl
   · have h2 : e.hi.inf ≠ 0 := by rw [← ih]; simpa using h2
     unfold Es.span Sk.v; rw [if_pos h1, if_neg h2, ← x0o]; rfl
 · have h1 : e.lo.inf ≠ 0 := by rw [← il]; simpa using h1
   refine ⟨fun h2 => ?_, fun h2 => ?_⟩
   · have h2 : e.hi.inf = 0 := by rw [← ih]; simpa using h2
     refine (d0h (h.hi.num.le (View.le_trans l1 l2)) (by omega)).mono fun v V4 l4 hv => ⟨_, hv, ?_⟩
     unfold Es.span Sk.v; rw [if_neg h1, if_pos h2, ← K0d]; rfl
   · have h2 : e.hi.inf ≠ 0 := by rw [← ih]; simpa using h2
     unfold Es.span Sk.v; rw [if_neg h1, if_neg h2, ← x0o, ← K0d]

theorem z0n {z : Cq} {A B : Int} {D : Nat} (h : Rep z A B D) : Rep ⟨z.re, 0⟩ A 0 D := ⟨h.pos, h.re, by simp [Rat.div_def]⟩
theorem d0t {z : Cq} {A B : Int} {D : Nat} (h : Rep z A B D) : Rep ⟨z.im, 0⟩ B 0 D := ⟨h.pos, h.im, by simp [Rat.div_def]⟩
theorem H0w (z : Cq) : (⟨z.re, 0⟩ : Cq).sz ≤ z.sz + 1 :=
 (z0n z.canon.rep).sz (by have := z.szA; omega) (by rw [Int.natAbs_zero, Y05]; omega) (by have := z.szD; omega)
theorem I0w (z : Cq) : (⟨z.im, 0⟩ : Cq).sz ≤ z.sz + 1 :=
 (d0t z.canon.rep).sz (by have := z.szB; omega) (by rw [Int.natAbs_zero, Y05]; omega) (by have := z.szD; omega)
theorem p0n {V : View} {x : NumV} {z : Cq} (h : S01 V x z) (hz : z.sz ≤ 2 ^ 40) : a00 prog q0t #[x.val] V fun v V' => ∃ r : NumV, v = r.val ∧ S01 V' r ⟨z.re, 0⟩ := by
 have zA := Cq.wA hz; have zB := Cq.wB hz; have zD := Cq.wD hz
 refine z0r x V _ ((f01 h).mono fun v V1 l1 ⟨d, hv, hd⟩ => ⟨d, hv, ?_⟩)
 exact (q03 (h.re.le l1) (I00.zero V1) hd (z0n z.canon.rep) (by omega) (by rw [Int.natAbs_zero, P03]; omega) (by omega)).mono fun v V2 _ ⟨r, hv, hr⟩ => ⟨r, hv, r, rfl, hr⟩
theorem q0n {V : View} {x : NumV} {z : Cq} (h : S01 V x z) (hz : z.sz ≤ 2 ^ 40) : a00 prog s0t #[x.val] V fun v V' => ∃ r : NumV, v = r.val ∧ S01 V' r ⟨z.im, 0⟩ := by
 have zA := Cq.wA hz; have zB := Cq.wB hz; have zD := Cq.wD hz
 refine A0r x V _ ((f01 h).mono fun v V1 l1 ⟨d, hv, hd⟩ => ⟨d, hv, ?_⟩)
 exact (q03 (h.im.le l1) (I00.zero V1) hd (d0t z.canon.rep) (by omega) (by rw [Int.natAbs_zero, P03]; omega) (by omega)).mono fun v V2 _ ⟨r, hv, hr⟩ => ⟨r, hv, r, rfl, hr⟩
theorem A_zero {z : Cq} : z.A = 0 ↔ z.re = 0 := by
 have h := z.canon.rep
 have hD := W00 h.pos
 rw [h.re]
 constructor
 · intro e; rw [e]; simp [Rat.div_def]
 · intro e
   have : (z.A : Rat) = 0 := by
    have : (z.A : Rat) = (z.A : Rat) / (z.D : Rat) * (z.D : Rat) := by rw [Rat.div_mul_cancel hD]
    rw [this, e]; simp
   exact_mod_cast this
theorem B_zero {z : Cq} : z.B = 0 ↔ z.im = 0 := by
 have h := z.canon.rep
 have hD := W00 h.pos
 rw [h.im]
 constructor
 · intro e; rw [e]; simp [Rat.div_def]
 · intro e
   have : (z.B : Rat) = 0 := by
    have : (z.B : Rat) = (z.B : Rat) / (z.D : Rat) * (z.D : Rat) := by rw [Rat.div_mul_cancel hD]
    rw [this, e]; simp
   exact_mod_cast this
theorem e0g {V : View} {x : NumV} {z : Cq} (h : S01 V x z) (hz : z.sz ≤ 2 ^ 40) : a00 prog g0m #[x.val] V fun v _ => v = .bool (decide (z ≠ Cq.zero)) := by
 have zA := Cq.wA hz; have zB := Cq.wB hz
 refine B0k x V _ ?_
 have a1 := h.re.2.len; have a2 := h.im.2.len
 have b1 := h.re.2.len_zero; have b2 := h.im.2.len_zero
 have c1 : x.re.mag.len ≤ 2 ^ 50 := by
  have : x.re.mag.len = wn z.A.natAbs := by rw [wn]; exact a1.symm ▸ rfl
  omega
 have c2 : x.im.mag.len ≤ 2 ^ 50 := by
  have : x.im.mag.len = wn z.B.natAbs := by rw [wn]; exact a2.symm ▸ rfl
  omega
 rw [i64w (by omega) (by omega)]
 have d1 : x.re.mag.len = 0 ↔ z.re = 0 := by rw [b1, ← A_zero]; omega
 have d2 : x.im.mag.len = 0 ↔ z.im = 0 := by rw [b2, ← B_zero]; omega
 have e : (z ≠ Cq.zero) ↔ ((x.re.mag.len : Int) + (x.im.mag.len : Int) > 0) := by
  constructor
  · intro hne
    rcases Nat.eq_zero_or_pos x.re.mag.len with p | p
    · rcases Nat.eq_zero_or_pos x.im.mag.len with q | q
      · exact absurd (Cq.ext' (d1.1 p) (d2.1 q)) hne
      · omega
    · omega
  · rintro hp rfl
    have p := d1.2 rfl; have q := d2.2 rfl
    omega
 simp only [e]
theorem Rep.div {z w : Cq} {A B a b : Int} {D d n : Nat} (hw : Rep w A B D) (ht : Rep (z * ⟨(A : Rat), -(B : Rat)⟩) a b d) (hn : (n : Int) = A * A + B * B) (h0 : n ≠ 0) : Rep (z.div w) (a * D) (b * D) (d * n) := by
 have hD := W00 hw.pos
 have hd := W00 ht.pos
 have hn0 := W00 h0
 have hN : (n : Rat) = (A : Rat) * A + B * B := by exact_mod_cast hn
 have t1 := ht.re; have t2 := ht.im
 rw [J06] at t1; rw [K06] at t2
 dsimp only at t1 t2
 refine ⟨Nat.mul_ne_zero ht.pos h0, ?_, ?_⟩
 · show (z.re * w.re + z.im * w.im) / (w.re * w.re + w.im * w.im) = _
   rw [hw.re, hw.im, Rat.intCast_mul, Rat.natCast_mul, Rat.intCast_natCast]
   have e1 : z.re * ((A : Rat) / (D : Rat)) + z.im * ((B : Rat) / (D : Rat)) = (a : Rat) / (d : Rat) / (D : Rat) := by rw [← t1]; grind
   have e2 : (A : Rat) / (D : Rat) * ((A : Rat) / (D : Rat)) + (B : Rat) / (D : Rat) * ((B : Rat) / (D : Rat)) = (n : Rat) / ((D : Rat) * (D : Rat)) := by rw [hN]; grind
   rw [e1, e2]; grind
 · show (z.im * w.re - z.re * w.im) / (w.re * w.re + w.im * w.im) = _
   rw [hw.re, hw.im, Rat.intCast_mul, Rat.natCast_mul, Rat.intCast_natCast]
   have e1 : z.im * ((A : Rat) / (D : Rat)) - z.re * ((B : Rat) / (D : Rat)) = (b : Rat) / (d : Rat) / (D : Rat) := by rw [← t2]; grind
   have e2 : (A : Rat) / (D : Rat) * ((A : Rat) / (D : Rat)) + (B : Rat) / (D : Rat) * ((B : Rat) / (D : Rat)) = (n : Rat) / ((D : Rat) * (D : Rat)) := by rw [hN]; grind
   rw [e1, e2]; grind
theorem z0c (A B : Int) : Rep ⟨(A : Rat), -(B : Rat)⟩ A (-B) 1 := by
 refine ⟨by omega, ?_, ?_⟩
 · rw [Rat.div_def]; simp; grind
 · rw [Rat.div_def]; simp; grind
theorem q0l {V : View} {x y : NumV} {z w : Cq} (hx : S01 V x z) (hy : S01 V y w) (hz : z.sz ≤ 2 ^ 36) (hw : w.sz ≤ 2 ^ 36) :
 a00 prog Z0q #[x.val, y.val] V fun v V' => ∃ (r : NumV) (e : Int), v = .tuple #[r.val, .int .i64 e] ∧ (w = Cq.zero → e = 3 ∧ S01 V' r Cq.zero) ∧ (w ≠ Cq.zero → e = 0 ∧ S01 V' r (z.div w)) := by
 have hw40 : w.sz ≤ 2 ^ 40 := by omega
 have wA := Cq.wA hw40; have wB := Cq.wB hw40; have wD := Cq.wD hw40
 have sA := w.szA; have sB := w.szB; have sD := w.szD
 refine O0p x y V _ ((e0g hy hw40).mono fun v V1 l1 hv => ⟨_, hv, fun hc => ?_, fun hc => ?_⟩)
 · have hc : w = Cq.zero := by simpa using hc
   exact ⟨_, _, rfl, fun _ => ⟨rfl, S01.zero V1⟩, fun h => absurd hc h⟩
 have hc : w ≠ Cq.zero := by simpa using hc
 replace hx := hx.le l1; replace hy := hy.le l1
 have m1 := j02 wA wA; have m2 := j02 wB wB
 refine (U02 hy.re hy.re (by omega) (by omega)).mono fun v V2 l2 ⟨r2, hv, h2⟩ => ⟨r2, hv, ?_⟩
 replace hx := hx.le l2; replace hy := hy.le l2
 refine (U02 hy.im hy.im (by omega) (by omega)).mono fun v V3 l3 ⟨r3, hv, h3⟩ => ⟨r3, hv, ?_⟩
 replace hx := hx.le l3; replace hy := hy.le l3; replace h2 := h2.le l3
 refine (l03 h2 h3 (by omega) (by omega)).mono fun v V4 l4 ⟨r4, hv, h4⟩ => ⟨r4, hv, ?_⟩
 replace hx := hx.le l4; replace hy := hy.le l4
 refine (w03 hy.im).mono fun v V5 l5 ⟨r5, hv, h5⟩ => ⟨r5, hv, fun b1 V6 l6 _ hb1 => ?_⟩
 replace hx := hx.le (View.le_trans l5 l6); replace hy := hy.le (View.le_trans l5 l6); replace h4 := h4.le (View.le_trans l5 l6); replace h5 := h5.le l6
 refine (q03 hy.re h5 (b0h hb1) (z0c w.A w.B) (by omega) (by rw [Int.natAbs_neg]; omega) a0d).mono fun v V7 l7 ⟨r6, hv, h6⟩ => ⟨r6, hv, ?_⟩
 replace hx := hx.le l7; replace hy := hy.le l7; replace h4 := h4.le l7
 have cs : (⟨(w.A : Rat), -(w.B : Rat)⟩ : Cq).sz ≤ 2 ^ 36 + 1 := (z0c w.A w.B).sz (by omega) (by rw [Int.natAbs_neg]; omega) (by rw [Q0n]; omega)
 refine (Z02 hx h6 (by omega) (by omega)).mono fun v V8 l8 ⟨r7, hv, h7⟩ => ⟨r7, hv, ?_⟩
 replace hy := hy.le l8; replace h4 := h4.le l8
 have ts := T01 z ⟨(w.A : Rat), -(w.B : Rat)⟩
 have ts40 : (z * ⟨(w.A : Rat), -(w.B : Rat)⟩).sz ≤ 2 ^ 40 := by omega
 have tA := Cq.wA ts40; have tB := Cq.wB ts40; have tD := Cq.wD ts40
 refine (f01 hy).mono fun v V9 l9 ⟨r8, hv, h8⟩ => ⟨r8, hv, ?_⟩
 replace hy := hy.le l9; replace h4 := h4.le l9; replace h7 := h7.le l9
 refine (X00 h7.re h8 (by omega) (by omega)).mono fun v V10 l10 ⟨r9, hv, h9⟩ => ⟨r9, hv, ?_⟩
 replace hy := hy.le l10; replace h4 := h4.le l10; replace h7 := h7.le l10
 refine (f01 hy).mono fun v V11 l11 ⟨r10, hv, h10⟩ => ⟨r10, hv, ?_⟩
 replace h4 := h4.le l11; replace h7 := h7.le l11; replace h9 := h9.le l11
 refine (X00 h7.im h10 (by omega) (by omega)).mono fun v V12 l12 ⟨r11, hv, h11⟩ => ⟨r11, hv, ?_⟩
 replace h4 := h4.le l12; replace h7 := h7.le l12; replace h9 := h9.le l12
 refine (f01 h7).mono fun v V13 l13 ⟨r12, hv, h12⟩ => ⟨r12, hv, ?_⟩
 replace h4 := h4.le l13; replace h9 := h9.le l13; replace h11 := h11.le l13
 have n1 := d08 m1 m2
 refine (N05 h12 h4.2 (by omega) (by omega)).mono fun v V14 l14 ⟨r13, hv, h13⟩ => ⟨r13, hv, ?_⟩
 replace h9 := h9.le l14; replace h11 := h11.le l14
 have p1 := K05 (z * ⟨(w.A : Rat), -(w.B : Rat)⟩).D (w.A * w.A + w.B * w.B).natAbs
 have q1 := j02 tA (b := (w.D : Int)) (by rw [Int.natAbs_natCast]; exact wD)
 have q2 := j02 tB (b := (w.D : Int)) (by rw [Int.natAbs_natCast]; exact wD)
 have hsq : (0 : Int) ≤ w.A * w.A + w.B * w.B := Int.add_nonneg (by rw [← Int.natAbs_mul_self]; exact Int.natCast_nonneg _) (by rw [← Int.natAbs_mul_self]; exact Int.natCast_nonneg _)
 refine (q03 h9 h11 h13 (Rep.div w.canon.rep (z * ⟨(w.A : Rat), -(w.B : Rat)⟩).canon.rep (Int.natAbs_of_nonneg hsq) ?_) (by omega) (by omega) (by omega)).mono fun v V15 _ ⟨r, hv, hr⟩ => ⟨r, hv, r, _, rfl, fun h => absurd h hc, fun _ => ⟨rfl, hr⟩⟩
 intro h0
 have e0 : w.A * w.A + w.B * w.B = 0 := Int.natAbs_eq_zero.1 h0
 have a0 : w.A = 0 := by
  by_cases h : w.A = 0
  · exact h
  · have : 0 < w.A * w.A := by
      have : 0 < w.A.natAbs * w.A.natAbs := Nat.mul_pos (by omega) (by omega)
      rw [← Int.natAbs_mul_self]; exact_mod_cast this
    have : (0 : Int) ≤ w.B * w.B := by rw [← Int.natAbs_mul_self]; exact Int.natCast_nonneg _
    omega
 have b0 : w.B = 0 := by
  rw [a0] at e0
  have : w.B * w.B = 0 := by omega
  rcases Int.mul_eq_zero.1 this with h | h <;> exact h
 exact hc (Cq.ext' (A_zero.1 a0) (B_zero.1 b0))
theorem L0u {z w : Cq} {S : Nat} (hz : z.sz ≤ S) (hw : w.sz ≤ S) : (z.div w).sz ≤ 4 * S + 8 := by
 have sA := w.szA; have sB := w.szB; have sD := w.szD
 have cs : (⟨(w.A : Rat), -(w.B : Rat)⟩ : Cq).sz ≤ S + 1 := (z0c w.A w.B).sz (by omega) (by rw [Int.natAbs_neg]; omega) (by rw [Q0n]; omega)
 have ts := T01 z ⟨(w.A : Rat), -(w.B : Rat)⟩
 have tA := (z * ⟨(w.A : Rat), -(w.B : Rat)⟩ : Cq).szA; have tB := (z * ⟨(w.A : Rat), -(w.B : Rat)⟩ : Cq).szB; have tD := (z * ⟨(w.A : Rat), -(w.B : Rat)⟩ : Cq).szD
 have hsq : (0 : Int) ≤ w.A * w.A + w.B * w.B := Int.add_nonneg (by rw [← Int.natAbs_mul_self]; exact Int.natCast_nonneg _) (by rw [← Int.natAbs_mul_self]; exact Int.natCast_nonneg _)
 by_cases h0 : (w.A * w.A + w.B * w.B).natAbs = 0
 · have : z.div w = Cq.zero := by
     have hr := w.canon.rep
     have e0 : w.A * w.A + w.B * w.B = 0 := Int.natAbs_eq_zero.1 h0
     have hn : w.norm = 0 := by
      unfold Cq.norm
      rw [hr.re, hr.im]
      have : (w.A : Rat) * w.A + w.B * w.B = 0 := by exact_mod_cast e0
      have hD := W00 hr.pos
      grind
     refine Cq.ext' ?_ ?_
     · show _ / w.norm = 0; rw [hn]; simp [Rat.div_def]
     · show _ / w.norm = 0; rw [hn]; simp [Rat.div_def]
   rw [this]; have := b04; omega
 · refine (Rep.div w.canon.rep (z * ⟨(w.A : Rat), -(w.B : Rat)⟩).canon.rep (Int.natAbs_of_nonneg hsq) h0).sz ?_ ?_ ?_
   · have := Z05 (z * ⟨(w.A : Rat), -(w.B : Rat)⟩).A (w.D : Int); rw [Int.natAbs_natCast] at this; omega
   · have := Z05 (z * ⟨(w.A : Rat), -(w.B : Rat)⟩).B (w.D : Int); rw [Int.natAbs_natCast] at this; omega
   · have h1 := L08 (z * ⟨(w.A : Rat), -(w.B : Rat)⟩).D (w.A * w.A + w.B * w.B).natAbs
     have h2 := B0e (a := w.A * w.A) (b := w.B * w.B) (k := 2 * S) (Nat.le_trans (Z05 _ _) (by omega)) (Nat.le_trans (Z05 _ _) (by omega))
     omega

theorem M09 {V : View} {x : Nat} (h : okW x) : a00 prog C0a #[.float .f64 x] V fun v _ => v = .float .f64 (k00 (key x)) := by
 have z0 : okW 0 := ⟨by decide, by decide⟩
 have k0 : key 0 = 0 := by decide
 refine E0k x V _ ⟨fun hc => ?_, fun hc => ?_⟩
 · rw [l08 h z0, k0] at hc
   have hc : key x = 0 := by simpa using hc
   rw [hc]; rfl
 · rw [l08 h z0, k0] at hc
   have hc : ¬ key x = 0 := by simpa using hc
   have : k00 (key x) = x := U0k h.1 (by rintro rfl; exact hc (by decide))
   rw [this]
theorem f08 {V : View} {x y : Nat} (hx : x < 2 ^ 64) (hy : y < 2 ^ 64) : a00 prog s0f #[.float .f64 x, .float .f64 y] V fun v _ => v = .tuple #[(mkS x y).v.val, .int .i64 (mkE x y)] := by
 have bad : ∀ {e : Int}, mkE x y = e → e ≠ 0 → (Value.tuple #[(SpV.mk 0 0).val, .int .i64 e]) = .tuple #[(mkS x y).v.val, .int .i64 (mkE x y)] := by
  intro e he h0
  unfold mkS; rw [he, if_neg h0, G0o]
 refine x0e x y V _ ((H04 hx).mono fun v V1 _ hv => ⟨_, hv, fun hc => ?_, fun hc => ?_⟩)
 · have hc : ¬ okW x := by simpa using hc
   exact bad (by unfold mkE; rw [if_pos (.inl hc)]) (by decide)
 have h1 : okW x := by simpa using hc
 refine (H04 hy).mono fun v V2 _ hv => ⟨_, hv, fun hc => ?_, fun hc => ?_⟩
 · have hc : ¬ okW y := by simpa using hc
   exact bad (by unfold mkE; rw [if_pos (.inr (.inl hc))]) (by decide)
 have h2 : okW y := by simpa using hc
 refine (J0d hx).mono fun v V3 _ hv => ⟨_, hv, fun hc => ?_, fun hc => ?_⟩
 · have hc : key x = (infR : Int) := by simp only [decide_eq_true_eq] at hc; exact hc.2
   exact bad (by unfold mkE; rw [if_pos (.inr (.inr (.inl hc)))]) (by decide)
 have h3 : ¬ key x = (infR : Int) := by simp only [decide_eq_false_iff_not] at hc; exact fun e => hc ⟨h1, e⟩
 refine (H09 hy).mono fun v V4 _ hv => ⟨_, hv, fun hc => ?_, fun hc => ?_⟩
 · have hc : key y = -(infR : Int) := by simp only [decide_eq_true_eq] at hc; exact hc.2
   exact bad (by unfold mkE; rw [if_pos (.inr (.inr (.inr hc)))]) (by decide)
 have h4 : ¬ key y = -(infR : Int) := by simp only [decide_eq_false_iff_not] at hc; exact fun e => hc ⟨h2, e⟩
 have hno : ¬ (¬ okW x ∨ ¬ okW y ∨ key x = (infR : Int) ∨ key y = -(infR : Int)) := by
  rintro (h | h | h | h)
  · exact h h1
  · exact h h2
  · exact h3 h
  · exact h4 h
 refine ⟨fun hc => ?_, fun hc => ?_⟩
 · rw [m0a h1 h2] at hc
   have hc : key y < key x := by simpa using hc
   exact bad (by unfold mkE; rw [if_neg hno, if_pos hc]) (by decide)
 · rw [m0a h1 h2] at hc
   have hc : ¬ key y < key x := by simpa using hc
   have he : mkE x y = 0 := by unfold mkE; rw [if_neg hno, if_neg hc]
   refine (M09 h1).mono fun v V5 _ hv => ⟨_, hv, (M09 h2).mono fun v V6 _ hv => ⟨_, hv, ?_⟩⟩
   unfold mkS; rw [he, if_pos rfl]; rfl
theorem J0w {a b : Int} (ha : inK a) (hb : inK b) : inK (max a b) := by unfold inK at *; omega
theorem q06 {V : View} {s : Sk} (h : s.ok) : a00 prog f0p #[s.v.val] V fun v V' => ∃ r : SetV, v = r.val ∧ EsAt V' r s.set := by
 refine N0m s.v V _ ((t0o (okK h.lo)).mono fun v V1 _ ⟨a, hv, ha⟩ => ⟨a, hv, (t0o (okK h.hi)).mono fun v V2 l2 ⟨b, hv, hb⟩ => ⟨b, hv, _, rfl, ?_, ?_⟩⟩)
 · rw [keyK h.lo] at ha; exact ha.le l2
 · rw [keyK h.hi] at hb; exact hb
theorem N09 {s : Sk} (h : s.ok) : E01 s.set 2100 := ⟨M0a h.lo, M0a h.hi⟩
theorem y0o {V : View} {s : Sk} (h : s.ok) {x : NumV} {z : Cq} (hx : S01 V x z) (hz : z.sz ≤ 2 ^ 40) : a00 prog b0p #[s.v.val, x.val] V fun v _ => v = .bool (decide (z.im = 0) && s.has z.re) := by
 refine O0m s.v x V _ ((q06 h).mono fun v V1 l1 ⟨r, hv, hr⟩ => ⟨r, hv, (T0i (hx.le l1)).mono fun v V2 l2 hv => ⟨_, hv, fun hc => ?_, fun hc => ?_⟩⟩)
 · have hc : z.im = 0 := by simpa using hc
   have e : z = (⟨0, z.re⟩ : Eb).num := Cq.ext' rfl hc
   have hb : BdAt V2 (BdV.mk 0 x) ⟨0, z.re⟩ := ⟨rfl, by rw [← e]; exact hx.le (View.le_trans l1 l2), .inl rfl⟩
   have hzz : (⟨0, z.re⟩ : Eb).num.sz ≤ 2 ^ 40 := by rw [← e]; exact hz
   have s1 : (endE s.lo).num.sz ≤ 2 ^ 40 := Nat.le_trans (M0a h.lo) (by omega)
   have s2 : (endE s.hi).num.sz ≤ 2 ^ 40 := Nat.le_trans (M0a h.hi) (by omega)
   refine (z03 (hr.lo.le l2) hb s1 hzz).mono fun v V3 l3 hv => ⟨_, hv, fun hd => ?_, fun hd => ?_⟩
   · refine (z03 (hb.le l3) (hr.hi.le (View.le_trans l2 l3)) hzz s2).mono fun v V4 _ hv => ⟨_, hv, ?_⟩
     have hd : s.set.lo.cmp ⟨0, z.re⟩ ≤ 0 := by simpa using hd
     have hd : (endE s.lo).cmp ⟨0, z.re⟩ ≤ 0 := hd
     show Value.bool _ = _
     unfold Sk.has; rw [hc, decide_eq_true hd]; simp; rfl
   · have hd : ¬ s.set.lo.cmp ⟨0, z.re⟩ ≤ 0 := by simpa using hd
     have hd : ¬ (endE s.lo).cmp ⟨0, z.re⟩ ≤ 0 := hd
     unfold Sk.has; rw [decide_eq_false hd]; simp
 · have hc : ¬ z.im = 0 := by simpa using hc
   simp [hc]
theorem L0s {V : View} {c d : CxV} (h1 : c.re < 2 ^ 64) (h2 : c.im < 2 ^ 64) (h3 : d.re < 2 ^ 64) (h4 : d.im < 2 ^ 64) : a00 prog d0p #[.complex .f64 c.re c.im, .complex .f64 d.re d.im] V fun v _ => v = .tuple #[(mkB c.re c.im d.re d.im).v.val, .int .i64 (mkBE c.re c.im d.re d.im)] := by
 refine P0m c d V _ ((f08 h1 h3).mono fun v V1 _ hv => ⟨_, _, hv, (f08 h2 h4).mono fun v V2 _ hv => ⟨_, _, hv, fun hc => ?_, fun hc => ?_⟩⟩)
 · have hc : mkE c.re d.re = 1 := by simpa using hc
   have e : mkBE c.re c.im d.re d.im = 1 := by unfold mkBE; rw [if_pos (.inl hc)]
   unfold mkB; rw [e]; rfl
 have c1 : ¬ mkE c.re d.re = 1 := by simpa using hc
 refine ⟨fun hc => ?_, fun hc => ?_⟩
 · have hc : mkE c.im d.im = 1 := by simpa using hc
   have e : mkBE c.re c.im d.re d.im = 1 := by unfold mkBE; rw [if_pos (.inr hc)]
   unfold mkB; rw [e]; rfl
 have c2 : ¬ mkE c.im d.im = 1 := by simpa using hc
 have hno : ¬ (mkE c.re d.re = 1 ∨ mkE c.im d.im = 1) := by rintro (h | h); exact c1 h; exact c2 h
 refine ⟨fun hc => ?_, fun hc => ?_⟩
 · have hc : mkE c.re d.re ≠ 0 := by simpa using hc
   have e : mkBE c.re c.im d.re d.im = 7 := by unfold mkBE; rw [if_neg hno, if_pos (.inl hc)]
   unfold mkB; rw [e]; rfl
 have c3 : ¬ mkE c.re d.re ≠ 0 := by simpa using hc
 refine ⟨fun hc => ?_, fun hc => ?_⟩
 · have hc : mkE c.im d.im ≠ 0 := by simpa using hc
   have e : mkBE c.re c.im d.re d.im = 7 := by unfold mkBE; rw [if_neg hno, if_pos (.inr hc)]
   unfold mkB; rw [e]; rfl
 have c4 : ¬ mkE c.im d.im ≠ 0 := by simpa using hc
 have e : mkBE c.re c.im d.re d.im = 0 := by unfold mkBE; rw [if_neg hno, if_neg]; rintro (h | h); exact c3 h; exact c4 h
 unfold mkB; rw [e]; rfl
theorem M0s {V : View} (s t : SpV) : a00 prog e0p #[s.val, t.val] V fun v _ => v = (BoxV.mk s t).val := Q0m s t V _ rfl
theorem d0j {V : View} (b : BoxV) : a00 prog o0t #[b.val] V fun v _ => v = .complex .f64 b.re.lo b.im.lo := B0r b V _ rfl
theorem e0j {V : View} (b : BoxV) : a00 prog p0t #[b.val] V fun v _ => v = .complex .f64 b.re.hi b.im.hi := C0r b V _ rfl
theorem s0l {V : View} {b : Bk} (h : b.ok) {x : NumV} {z : Cq} (hx : S01 V x z) (hz : z.sz ≤ 2 ^ 39) : a00 prog W0q #[b.v.val, x.val] V fun v _ => v = .bool (b.has z) := by
 have hz1 := H0w z; have hz2 := I0w z
 refine U0p b.v x V _ ((p0n hx (by omega)).mono fun v V1 l1 ⟨r, hv, hr⟩ => ⟨r, hv, ?_⟩)
 refine (y0o h.re hr (by omega)).mono fun v V2 l2 hv => ⟨_, hv, fun hc => ?_, fun hc => ?_⟩
 · have hc : b.re.has z.re = true := by simpa using hc
   refine (q0n (hx.le (View.le_trans l1 l2)) (by omega)).mono fun v V3 l3 ⟨r, hv, hr⟩ => ⟨r, hv, ?_⟩
   refine (y0o h.im hr (by omega)).mono fun v V4 l4 hv => ⟨_, hv, ?_⟩
   unfold Bk.has; rw [hc]; simp
 · have hc : b.re.has z.re = false := by simpa using hc
   unfold Bk.has; rw [hc]; simp
theorem k07 {V : View} {b : Bk} (h : b.ok) : a00 prog W0l #[b.v.val] V fun v _ => v = .bool (!b.has Cq.zero) :=
 F0k b.v V _ ((s0l h (S01.zero V) (Nat.le_trans b04 (by omega))).mono fun v V1 _ hv => ⟨_, hv, rfl⟩)
theorem z0o {e f : Es} {S : Nat} (he : E01 e S) (hf : E01 f S) : E01 (e.add f) (2 * S + 1) := by
 have a := he.1; have b := he.2; have c := hf.1; have d := hf.2
 have h1 := K09 e.lo f.lo; have h2 := K09 e.hi f.hi
 exact ⟨show (e.lo.add f.lo).num.sz ≤ _ by omega, show (e.hi.add f.hi).num.sz ≤ _ by omega⟩
theorem f0j {e : Es} {S : Nat} (he : E01 e S) : E01 e.neg S := by
 refine ⟨?_, ?_⟩
 · show e.hi.neg.num.sz ≤ S; rw [I04]; exact he.2
 · show e.lo.neg.num.sz ≤ S; rw [I04]; exact he.1
theorem a07 {e f : Es} {S : Nat} (he : E01 e S) (hf : E01 f S) : E01 (e.mul f) (2 * S + 1) := by
 have hp := w0o he hf
 exact ⟨a0f (by unfold Es.prods; simp) hp, a0f (by unfold Es.prods; simp) hp⟩
theorem t0l {V : View} {b c : Bk} (h : b.ok) (k : c.ok) : a00 prog U0q #[b.v.val, c.v.val] V fun v _ => v = (b.mul c).v.val := by
 have s1 := N09 h.re; have s2 := N09 h.im; have s3 := N09 k.re; have s4 := N09 k.im
 refine W0p b.v c.v V _ ((q06 h.re).mono fun v V1 l1 ⟨p, hv, hp⟩ => ⟨p, hv, ?_⟩)
 refine (q06 h.im).mono fun v V2 l2 ⟨q, hv, hq⟩ => ⟨q, hv, ?_⟩
 refine (q06 k.re).mono fun v V3 l3 ⟨r, hv, hr⟩ => ⟨r, hv, ?_⟩
 refine (q06 k.im).mono fun v V4 l4 ⟨s, hv, hs⟩ => ⟨s, hv, ?_⟩
 replace hp := hp.le (View.le_trans l2 (View.le_trans l3 l4)); replace hq := hq.le (View.le_trans l3 l4); replace hr := hr.le l4
 refine (Z06 hp hr s1 s3 (by omega)).mono fun v V5 l5 ⟨x5, hv, h5⟩ => ⟨x5, hv, ?_⟩
 replace hp := hp.le l5; replace hq := hq.le l5; replace hr := hr.le l5; replace hs := hs.le l5
 refine (Z06 hq hs s2 s4 (by omega)).mono fun v V6 l6 ⟨x6, hv, h6⟩ => ⟨x6, hv, ?_⟩
 replace hp := hp.le l6; replace hq := hq.le l6; replace hr := hr.le l6; replace hs := hs.le l6; replace h5 := h5.le l6
 refine (d0d h6).mono fun v V7 l7 ⟨x7, hv, h7⟩ => ⟨x7, hv, ?_⟩
 replace hp := hp.le l7; replace hq := hq.le l7; replace hr := hr.le l7; replace hs := hs.le l7; replace h5 := h5.le l7
 refine (e0d h5 h7 (a07 s1 s3) (f0j (a07 s2 s4)) (by omega)).mono fun v V8 l8 ⟨x8, hv, h8⟩ => ⟨x8, hv, ?_⟩
 replace hp := hp.le l8; replace hq := hq.le l8; replace hr := hr.le l8; replace hs := hs.le l8
 refine (p06 h8 (z0o (a07 s1 s3) (f0j (a07 s2 s4))) (by omega)).mono fun v V9 l9 hv => ⟨_, hv, ?_⟩
 replace hp := hp.le l9; replace hq := hq.le l9; replace hr := hr.le l9; replace hs := hs.le l9
 refine (Z06 hp hs s1 s4 (by omega)).mono fun v V10 l10 ⟨x10, hv, h10⟩ => ⟨x10, hv, ?_⟩
 replace hq := hq.le l10; replace hr := hr.le l10
 refine (Z06 hq hr s2 s3 (by omega)).mono fun v V11 l11 ⟨x11, hv, h11⟩ => ⟨x11, hv, ?_⟩
 refine (e0d (h10.le l11) h11 (a07 s1 s4) (a07 s2 s3) (by omega)).mono fun v V12 l12 ⟨x12, hv, h12⟩ => ⟨x12, hv, ?_⟩
 exact (p06 h12 (z0o (a07 s1 s4) (a07 s2 s3)) (by omega)).mono fun v V13 _ hv => ⟨_, hv, rfl⟩
theorem Bk.mul_ok (b c : Bk) : (b.mul c).ok := ⟨m0h _, m0h _⟩

def L07 (V : View) (n cap : Nat) (o : List Value) (es : List Eb) : Prop := ∃ l, X05 6 n cap o l ∧ Y02 6 bdC V l es ∧ n = es.length
theorem L07.le {V V' : View} (hle : V.le V') {n cap : Nat} {o : List Value} {es : List Eb} (h : L07 V n cap o es) : L07 V' n cap o es := by
 obtain ⟨l, h1, h2, h3⟩ := h; exact ⟨l, h1, h2.imp (bdC.le hle), h3⟩
theorem e0h (r : BdV) : ∀ v ∈ [Value.int .i64 r.inf, .bool r.x.re.neg, r.x.re.mag.v, .bool r.x.im.neg, r.x.im.mag.v, r.x.under.v], Value.oneCell' v = true := by
 intro v hv
 simp only [List.mem_cons, List.not_mem_nil, or_false] at hv
 rcases hv with rfl | rfl | rfl | rfl | rfl | rfl <;> rfl
theorem N0s {V : View} {b : Nat} {l : List Value} (h : V b = some l.toArray) : V.has (some (Addr.mk b 0 none)) l := by
 intro j v hj
 rw [m0c h]
 simpa using hj
theorem L07.push {V1 : View} {n cap : Nat} {o : List Value} {es : List Eb} {r : BdV} {e : Eb} {b : Nat} {R : Nat → Nat → List Value → View → Prop} (h : L07 V1 n cap o es) (hr : BdAt V1 r e) (hl : es.length ≤ 2 ^ 20)
 (hb : V1 b = some #[.int .i64 r.inf, .bool r.x.re.neg, r.x.re.mag.v, .bool r.x.im.neg, r.x.im.mag.v, r.x.under.v]) (hR : ∀ c l3, L07 V1 (n + 1) c l3 (es ++ [e]) → R (n + 1) c l3 V1) :
 ∃ (l1 l2 : List Value), X05 6 n cap o l1 ∧ View.has V1 (some (Addr.mk b 0 none)) l2 ∧ List.length l2 = 1 * 6 ∧ (∀ v ∈ l2, Value.oneCell' v = true) ∧ n + 1 ≤ maxLen ∧ (n + 1) * 96 ≤ 140737488355328 ∧
  ∀ (c1 : Nat) (l3 : List Value), X05 6 (n + 1) c1 l3 (l1 ++ l2) → R (n + 1) c1 l3 V1 := by
 obtain ⟨l, h1, h2, h3⟩ := h
 refine ⟨l, _, h1, N0s (l := [.int .i64 r.inf, .bool r.x.re.neg, r.x.re.mag.v, .bool r.x.im.neg, r.x.im.mag.v, r.x.under.v]) hb, rfl, e0h r, Nat.le_trans (show n + 1 ≤ 2 ^ 20 + 1 by omega) (by decide), by omega, fun c1 l3 hl3 => hR _ _ ⟨_, hl3, ?_, by simp; omega⟩⟩
 exact Y02.append h2 (Y02.one rfl ⟨r, rfl, hr⟩)
theorem u0l (a b : Rat) : (⟨a, 0⟩ : Cq).div (⟨a, 0⟩ * ⟨a, 0⟩ + ⟨b, 0⟩ * ⟨b, 0⟩) = ⟨a / (a * a + b * b), 0⟩ := by
 rw [T09, T09, y0c]
 refine Cq.ext' ?_ ?_
 · show (a * (a * a + b * b) + 0 * 0) / ((a * a + b * b) * (a * a + b * b) + 0 * 0) = a / (a * a + b * b)
   by_cases h : a * a + b * b = 0
   · rw [h]; simp [Rat.div_def]; try grind
   · grind
 · show (0 * (a * a + b * b) - a * 0) / ((a * a + b * b) * (a * a + b * b) + 0 * 0) = 0
   have e : 0 * (a * a + b * b) - a * 0 = (0 : Rat) := by grind
   rw [e, Rat.div_def]; grind
theorem O0s {a b : Eb} {S : Nat} (ha : a.num.sz ≤ S) (hb : b.num.sz ≤ S) : (t03 a b).num.sz ≤ 32 * S + 40 := by
 unfold t03; split
 · have := b04; show Cq.zero.sz ≤ _; omega
 · show (⟨a.x / (a.x * a.x + b.x * b.x), 0⟩ : Cq).sz ≤ _
   rw [← u0l]
   have h1 := T01 a.num a.num; have h2 := T01 b.num b.num; have h3 := S05 (a.num * a.num) (b.num * b.num)
   have h4 := L0u (z := a.num) (w := a.num * a.num + b.num * b.num) (S := 4 * S + 4) (by omega) (by omega)
   exact Nat.le_trans h4 (by omega)
theorem f09 {V : View} {a b : BdV} {e f : Eb} {n cap : Nat} {o : List Value} {es : List Eb} (ha : BdAt V a e) (hb : BdAt V b f) (he : e.num.sz ≤ 2 ^ 30) (hf : f.num.sz ≤ 2 ^ 30) (h : L07 V n cap o es) (hl : es.length ≤ 2 ^ 20) :
 X0b prog D0h ([a.val, b.val] : List Value) T0f U0f n cap o V fun n' cap' o' V' => L07 V' n' cap' o' (es ++ [t03 e f]) := by
 have iz : ∀ {V1 : View}, BdAt V1 (BdV.mk 0 (NumV.mk (WhV.mk false (Sl.mk none 0 0)) (WhV.mk false (Sl.mk none 0 0)) (Sl.mk none 0 0))) ⟨0, 0⟩ := BdAt.zero _
 refine W0f n cap o a b V _ ⟨fun hc b1 V1 l1 _ hb1 => ?_, fun hc => ⟨fun hd b1 V1 l1 _ hb1 => ?_, fun hd => ?_⟩⟩
 · have hc : e.inf ≠ 0 := by rw [← ha.inf]; simpa using hc
   have e1 : t03 e f = ⟨0, 0⟩ := by unfold t03; rw [if_pos (.inl hc)]
   rw [e1]
   exact (h.le l1).push (R := fun n' cap' o' V' => L07 V' n' cap' o' (es ++ [⟨0, 0⟩])) (r := BdV.mk 0 (NumV.mk (WhV.mk false (Sl.mk none 0 0)) (WhV.mk false (Sl.mk none 0 0)) (Sl.mk none 0 0))) iz hl hb1 fun _ _ h => h
 · have hd : f.inf ≠ 0 := by rw [← hb.inf]; simpa using hd
   have e1 : t03 e f = ⟨0, 0⟩ := by unfold t03; rw [if_pos (.inr hd)]
   rw [e1]
   exact (h.le l1).push (R := fun n' cap' o' V' => L07 V' n' cap' o' (es ++ [⟨0, 0⟩])) (r := BdV.mk 0 (NumV.mk (WhV.mk false (Sl.mk none 0 0)) (WhV.mk false (Sl.mk none 0 0)) (Sl.mk none 0 0))) iz hl hb1 fun _ _ h => h
 · have hc : ¬ e.inf ≠ 0 := by rw [← ha.inf]; simpa using hc
   have hd : ¬ f.inf ≠ 0 := by rw [← hb.inf]; simpa using hd
   have s1 := T01 e.num e.num; have s2 := T01 f.num f.num; have s3 := S05 (e.num * e.num) (f.num * f.num)
   refine (Z02 ha.num ha.num (by omega) (by omega)).mono fun v V1 l1 ⟨r1, hv, h1⟩ => ⟨r1, hv, ?_⟩
   refine (Z02 (hb.num.le l1) (hb.num.le l1) (by omega) (by omega)).mono fun v V2 l2 ⟨r2, hv, h2⟩ => ⟨r2, hv, ?_⟩
   refine (Y06 (h1.le l2) h2 (by omega) (by omega)).mono fun v V3 l3 ⟨r3, hv, h3⟩ => ⟨r3, hv, ?_⟩
   have L3 := View.le_trans l1 (View.le_trans l2 l3)
   refine (q0l (ha.num.le L3) h3 (by omega) (by omega)).mono fun v V4 l4 ⟨r4, er, hv, hz, hn⟩ => ⟨r4, er, hv, fun b1 V5 l5 _ hb1 => ?_⟩
   have h4 : S01 V4 r4 (t03 e f).num := by
    have e1 : (t03 e f).num = e.num.div (e.num * e.num + f.num * f.num) := by
     unfold t03; rw [if_neg (by rintro (h | h); exact hc h; exact hd h)]; exact (u0l e.x f.x).symm
    rw [e1]
    by_cases h0 : e.num * e.num + f.num * f.num = Cq.zero
    · have := (hz h0).2
      have e2 : e.num.div (e.num * e.num + f.num * f.num) = Cq.zero := by
       rw [h0]; refine Cq.ext' ?_ ?_
       · show (_ : Rat) / (0 * 0 + 0 * 0) = 0; simp [Rat.div_def]; try grind
       · show (_ : Rat) / (0 * 0 + 0 * 0) = 0; simp [Rat.div_def]; try grind
      rw [e2]; exact this
    · exact (hn h0).2
   have hi : (t03 e f).inf = 0 := by unfold t03; split <;> rfl
   have h5 : BdAt V5 (BdV.mk 0 r4) (t03 e f) := ⟨hi.symm, h4.le l5, .inl hi⟩
   exact (h.le (View.le_trans L3 (View.le_trans l4 l5))).push (R := fun n' cap' o' V' => L07 V' n' cap' o' (es ++ [t03 e f])) (r := BdV.mk 0 r4) h5 hl hb1 fun _ _ h => h
theorem N0a {V : View} {b : Nat} {r1 r2 : BdV} {e1 e2 : Eb} (h1 : BdAt V r1 e1) (h2 : BdAt V r2 e2)
 (hb : V b = some #[.int .i64 r1.inf, .bool r1.x.re.neg, r1.x.re.mag.v, .bool r1.x.im.neg, r1.x.im.mag.v, r1.x.under.v, .int .i64 r2.inf, .bool r2.x.re.neg, r2.x.re.mag.v, .bool r2.x.im.neg, r2.x.im.mag.v, r2.x.under.v]) :
 d0g V ⟨some ⟨b, 0, none⟩, 2, 2⟩ [e1, e2] :=
 x0a (o := r1.val.cells.toList ++ (r2.val.cells.toList ++ [])) hb ⟨_, _, rfl, rfl, ⟨r1, rfl, h1⟩, _, _, rfl, rfl, ⟨r2, rfl, h2⟩, rfl⟩ rfl
theorem g0j {V : View} {b : Nat} {e1 e2 : Eb} (h : d0g V ⟨some ⟨b, 0, none⟩, 2, 2⟩ [e1, e2]) {i : Nat} (hi : i < 2) :
 ((0 : Int) ≤ (i : Int) ∧ (i : Int) < (2 : Nat) ∧ Option.isSome (some (Addr.mk b 0 none)) = true) ∧
 ∃ x : BdV, View.has V (Option.map (fun q => Addr.add q (Int.toNat (i : Int) * 6)) (some (Addr.mk b 0 none))) (x.val).cells.toList ∧ Option.isSome (Option.map (fun q => Addr.add q (Int.toNat (i : Int) * 6)) (some (Addr.mk b 0 none))) = true ∧ BdAt V x (at2 e1 e2 i) := by
 obtain ⟨hb, x, ⟨b0, hx, hb0⟩, _, hh, hs⟩ := P02.get h (t := (i : Int)) (by omega) (z := at2 e1 e2 i) (by
  rw [Int.toNat_natCast]
  rcases (by omega : i = 0 ∨ i = 1) with rfl | rfl <;> rfl)
 exact ⟨hb, b0, hx ▸ hh, hs, hb0⟩
theorem A0o {e1 e2 : Eb} {S i : Nat} (h1 : e1.num.sz ≤ S) (h2 : e2.num.sz ≤ S) : (at2 e1 e2 i).num.sz ≤ S := by
 cases i with
 | zero => exact h1
 | succ i => exact h2
theorem O0a {x y : Es} (sx : E01 x (2 ^ 12)) (sy : E01 y (2 ^ 12)) : ∀ e ∈ P0c x y, e.num.sz ≤ 2 ^ 18 := by
 have v : ∀ {a b : Eb}, a.num.sz ≤ 2 ^ 12 → b.num.sz ≤ 2 ^ 12 → (t03 a b).num.sz ≤ 2 ^ 18 := fun ha hb => Nat.le_trans (O0s ha hb) (by omega)
 have z : (Eb.fin 0).num.sz ≤ 2 ^ 12 := Nat.le_trans c0j (by omega)
 have A : ∀ {a : Eb}, a.num.sz ≤ 2 ^ 12 → ∀ e ∈ rowA y a, e.num.sz ≤ 2 ^ 18 := by
  intro a ha e he
  unfold rowA rowZ at he
  split at he
  · simp only [List.cons_append, List.nil_append, List.mem_cons, List.not_mem_nil, or_false] at he
    rcases he with rfl | rfl | rfl
    · exact v ha sy.1
    · exact v ha sy.2
    · exact v ha z
  · simp only [List.append_nil, List.mem_cons, List.not_mem_nil, or_false] at he
    rcases he with rfl | rfl
    · exact v ha sy.1
    · exact v ha sy.2
 have C : ∀ {b a : Eb}, b.num.sz ≤ 2 ^ 12 → a.num.sz ≤ 2 ^ 12 → ∀ e ∈ colB x b a, e.num.sz ≤ 2 ^ 18 := by
  intro b a hb ha e he
  unfold colB at he
  split at he
  · simp only [List.mem_cons, List.not_mem_nil, or_false] at he
    subst he; exact v ha hb
  · simp at he
 have B : ∀ {b : Eb}, b.num.sz ≤ 2 ^ 12 → ∀ e ∈ rowB x b, e.num.sz ≤ 2 ^ 18 := by
  intro b hb e he
  unfold rowB at he
  rcases List.mem_append.1 he with h | h
  · exact C hb hb e h
  · exact C hb (by rw [I04]; exact hb) e h
 intro e he
 simp only [P0c, preB, preA] at he
 rcases List.mem_append.1 he with h | h
 · rcases List.mem_append.1 h with h | h
   · exact A sx.1 e h
   · exact A sx.2 e h
 · rcases List.mem_append.1 h with h | h
   · exact B sy.1 e h
   · exact B sy.2 e h
theorem P0s {x y : Es} (sx : E01 x (2 ^ 12)) (sy : E01 y (2 ^ 12)) : ∀ e ∈ P0c x y, e.num.sz ≤ 2 ^ 40 := fun e he => Nat.le_trans (O0a sx sy e he) (by omega)
theorem f0h {V : View} {s t : SetV} {x y : Es} (hx : EsAt V s x) (hy : EsAt V t y) (sx : E01 x (2 ^ 12)) (sy : E01 y (2 ^ 12)) :
 a00 prog X0l #[s.val, t.val] V fun v V' => ∃ r : SetV, v = r.val ∧ EsAt V' r (x.share y) := by
 refine D0k s t V _
  (fun _ w V' => ∃ i : Nat, i ≤ 2 ∧ w.t22 = i ∧ L07 V' w.o5_0l w.o5_0c w.o6 (preA x y i)) (fun _ w _ => (2 - w.t22).toNat)
  (fun c w V' => ∃ j : Nat, j ≤ 2 ∧ w.t32 = j ∧ L07 V' w.o5_0l w.o5_0c w.o6 (preA x y c.t22.toNat ++ inA y (at2 x.lo x.hi c.t22.toNat) j)) (fun _ w _ => (2 - w.t32).toNat)
  (fun _ w V' => ∃ i : Nat, i ≤ 2 ∧ w.t59 = i ∧ L07 V' w.o5_0l w.o5_0c w.o6 (preB x y i)) (fun _ w _ => (2 - w.t59).toNat)
  (fun c w V' => ∃ j : Nat, j ≤ 2 ∧ w.t68 = j ∧ L07 V' w.o5_0l w.o5_0c w.o6 (preB x y c.t59.toNat ++ inB x (at2 y.lo y.hi c.t59.toNat) j)) (fun _ w _ => (2 - w.t68).toNat) ?_
 intro b1 V1 l1 _ hb1
 replace hx := hx.le l1; replace hy := hy.le l1
 have hxs := N0a hx.lo hx.hi hb1
 refine ⟨⟨0, by omega, rfl, [], X05.nil, rfl, rfl⟩, ?_⟩
 rintro ⟨t22, o4, o5l, o5c, o6⟩ V2 l2 ⟨i, hi, rfl, hg⟩
 dsimp only at hg ⊢
 have big : ∀ {e : Eb}, e.num.sz ≤ 2 ^ 12 → e.num.sz ≤ 2 ^ 30 := fun h => Nat.le_trans h (by omega)
 have big40 : ∀ {e : Eb}, e.num.sz ≤ 2 ^ 12 → e.num.sz ≤ 2 ^ 40 := fun h => Nat.le_trans h (by omega)
 refine ⟨fun hlt => ?_, fun hge => ?_⟩
 · simp only [decide_eq_true_eq] at hlt
   have hi2 : i < 2 := by omega
   obtain ⟨hb, x3, hh, hs, hx3⟩ := g0j (hxs.le l2) hi2
   have sx3 : (at2 x.lo x.hi i).num.sz ≤ 2 ^ 12 := A0o sx.1 sx.2
   refine ⟨hb, x3, hh, hs, fun b2 V3 l3 _ hb2 => ?_⟩
   have hys := N0a (hy.lo.le (View.le_trans l2 l3)) (hy.hi.le (View.le_trans l2 l3)) hb2
   refine ⟨⟨0, by omega, rfl, ?_⟩, ?_⟩
   · rw [Int.toNat_natCast]; simpa [inA] using hg.le l3
   rintro ⟨t32, q5l, q5c, q6⟩ V4 l4 ⟨j, hj, rfl, hg2⟩
   dsimp only at hg2 ⊢
   rw [Int.toNat_natCast] at hg2
   have L34 := View.le_trans l3 l4
   have ln1 := Y0n x y i; have ln2 := k0v y (at2 x.lo x.hi i) j
   refine ⟨fun hlt2 => ?_, fun hge2 => ?_⟩
   · simp only [decide_eq_true_eq] at hlt2
     have hj2 : j < 2 := by omega
     obtain ⟨hb', x6, hh', hs', hx6⟩ := g0j (hys.le l4) hj2
     refine ⟨hb', x6, hh', hs', ?_⟩
     refine (f09 (hx3.le L34) hx6 (big sx3) (big (A0o sy.1 sy.2)) hg2 (by simp only [List.length_append]; omega)).mono fun n' c' o' V5 l5 _ hg3 => ?_
     rw [i64w (by omega) (by omega)]
     rw [List.append_assoc, D0t y _ hj2] at hg3
     refine ⟨⟨j + 1, by omega, by simp, ?_⟩, ?_⟩
     · rw [Int.toNat_natCast]; exact hg3
     · omega
   · simp only [decide_eq_false_iff_not] at hge2
     have hj2 : j = 2 := by omega
     subst hj2
     have done : ∀ {V' : View} {n c : Nat} {o : List Value}, L07 V' n c o (preA x y i ++ inA y (at2 x.lo x.hi i) 2 ++ rowZ y (at2 x.lo x.hi i)) → ∃ i' : Nat, i' ≤ 2 ∧ (i : Int) + 1 = i' ∧ L07 V' n c o (preA x y i') := by
      intro V' n c o h
      refine ⟨i + 1, by omega, by simp, ?_⟩
      rw [← Y0r x y hi2]
      rw [List.append_assoc] at h; exact h
     have hy4 := hy.le (View.le_trans l2 L34)
     refine (L0b hy4 sy (by omega)).mono fun v V6 l6 hv => ⟨_, hv, fun hc => ?_, fun hc => ?_⟩
     · have hx3' := hx3.le (View.le_trans L34 l6)
       refine (K02 hx3' (big40 sx3)).mono fun v V7 l7 hv => ⟨_, hv, fun hd => ?_, fun hd => ?_⟩
       · have hd : (at2 x.lo x.hi i).sign ≠ 0 := by simpa using hd
         refine (f09 (hx3'.le l7) (BdAt.zero V7) (big sx3) (Nat.le_trans c0j (by omega)) (hg2.le (View.le_trans l6 l7)) (by simp only [List.length_append]; omega)).mono fun n' c' o' V8 l8 _ hg3 => ?_
         rw [i64w (by omega) (by omega)]
         refine ⟨done ?_, by omega⟩
         have : rowZ y (at2 x.lo x.hi i) = [t03 (at2 x.lo x.hi i) (Eb.fin 0)] := by unfold rowZ; rw [if_pos ⟨hc, hd⟩]
         rw [this]; exact hg3
       · have hd : (at2 x.lo x.hi i).sign = 0 := by simpa using hd
         rw [i64w (by omega) (by omega)]
         refine ⟨done ?_, by omega⟩
         have : rowZ y (at2 x.lo x.hi i) = [] := by unfold rowZ; rw [if_neg (fun h => h.2 hd)]
         rw [this, List.append_nil]; exact hg2.le (View.le_trans l6 l7)
     · rw [i64w (by omega) (by omega)]
       refine ⟨done ?_, by omega⟩
       have : rowZ y (at2 x.lo x.hi i) = [] := by unfold rowZ; rw [if_neg (fun h => by rw [hc] at h; simp at h)]
       rw [this, List.append_nil]; exact hg2.le l6
 · simp only [decide_eq_false_iff_not] at hge
   have hi2 : i = 2 := by omega
   subst hi2
   intro b3 V9 l9 _ hb3
   replace hx := hx.le (View.le_trans l2 l9); replace hy := hy.le (View.le_trans l2 l9)
   have hys := N0a hy.lo hy.hi hb3
   refine ⟨⟨0, by omega, rfl, hg.le l9⟩, ?_⟩
   rintro ⟨t59, r4, r5l, r5c, r6⟩ V10 l10 ⟨k, hk, rfl, hgk⟩
   dsimp only at hgk ⊢
   refine ⟨fun hlt => ?_, fun hge => ?_⟩
   · simp only [decide_eq_true_eq] at hlt
     have hk2 : k < 2 := by omega
     obtain ⟨hb, x13, hh, hs, hx13⟩ := g0j (hys.le l10) hk2
     have s13 : (at2 y.lo y.hi k).num.sz ≤ 2 ^ 12 := A0o sy.1 sy.2
     refine ⟨hb, x13, hh, hs, ?_⟩
     refine (Y00 hx13).mono fun v V11 l11 ⟨r3, hv, hr3⟩ => ⟨r3, hv, fun b4 V12 l12 _ hb4 => ?_⟩
     have hzs := N0a (hx13.le (View.le_trans l11 l12)) (hr3.le l12) hb4
     have sn : (at2 y.lo y.hi k).neg.num.sz ≤ 2 ^ 12 := by rw [I04]; exact s13
     refine ⟨⟨0, by omega, rfl, ?_⟩, ?_⟩
     · rw [Int.toNat_natCast]; simpa [inB] using hgk.le (View.le_trans l11 l12)
     rintro ⟨t68, q5l, q5c, q6⟩ V13 l13 ⟨j, hj, rfl, hg2⟩
     dsimp only at hg2 ⊢
     rw [Int.toNat_natCast] at hg2
     have L := View.le_trans l10 (View.le_trans l11 (View.le_trans l12 l13))
     have hx13' := hx13.le (View.le_trans l11 (View.le_trans l12 l13))
     have ln1 := Z0n x y k; have ln2 := l0v x (at2 y.lo y.hi k) j
     refine ⟨fun hlt2 => ?_, fun hge2 => ?_⟩
     · simp only [decide_eq_true_eq] at hlt2
       have hj2 : j < 2 := by omega
       obtain ⟨hb', x16, hh', hs', hx16⟩ := g0j (hzs.le l13) hj2
       have s16 : (at2 (at2 y.lo y.hi k) (at2 y.lo y.hi k).neg j).num.sz ≤ 2 ^ 12 := A0o s13 sn
       refine ⟨hb', x16, hh', hs', ?_⟩
       have stay : ∀ {V' : View} {n c : Nat} {o : List Value}, L07 V' n c o (preB x y k ++ inB x (at2 y.lo y.hi k) j ++ colB x (at2 y.lo y.hi k) (at2 (at2 y.lo y.hi k) (at2 y.lo y.hi k).neg j)) →
        ∃ j' : Nat, j' ≤ 2 ∧ (j : Int) + 1 = j' ∧ L07 V' n c o (preB x y (Int.toNat (k : Int)) ++ inB x (at2 y.lo y.hi (Int.toNat (k : Int))) j') := by
        intro V' n c o h
        rw [Int.toNat_natCast]
        refine ⟨j + 1, by omega, by simp, ?_⟩
        rw [List.append_assoc, E0t x _ hj2] at h; exact h
       have none : ∀ {V' : View}, V13.le V' → ¬ ((at2 y.lo y.hi k).inf = 0 ∧ (at2 y.lo y.hi k).sign ≠ 0 ∧ x.lo.cmp (at2 (at2 y.lo y.hi k) (at2 y.lo y.hi k).neg j) ≤ 0 ∧ (at2 (at2 y.lo y.hi k) (at2 y.lo y.hi k).neg j).cmp x.hi ≤ 0) →
        L07 V' q5l q5c q6 (preB x y k ++ inB x (at2 y.lo y.hi k) j ++ colB x (at2 y.lo y.hi k) (at2 (at2 y.lo y.hi k) (at2 y.lo y.hi k).neg j)) := by
        intro V' hle hn
        have : colB x (at2 y.lo y.hi k) (at2 (at2 y.lo y.hi k) (at2 y.lo y.hi k).neg j) = [] := by unfold colB; rw [if_neg hn]
        rw [this, List.append_nil]; exact hg2.le hle
       refine ⟨fun ha => ?_, fun ha => ?_⟩
       · have ha : (at2 y.lo y.hi k).inf = 0 := by rw [← hx13.inf]; simpa using ha
         refine (K02 hx13' (big40 s13)).mono fun v V14 l14 hv => ⟨_, hv, fun hc => ?_, fun hc => ?_⟩
         · have hc : (at2 y.lo y.hi k).sign ≠ 0 := by simpa using hc
           refine (z03 (hx.lo.le (View.le_trans L l14)) (hx16.le l14) (big40 sx.1) (big40 s16)).mono fun v V15 l15 hv => ⟨_, hv, fun hd => ?_, fun hd => ?_⟩
           · have hd : x.lo.cmp (at2 (at2 y.lo y.hi k) (at2 y.lo y.hi k).neg j) ≤ 0 := by simpa using hd
             have M := View.le_trans l14 l15
             refine (z03 (hx16.le M) (hx.hi.le (View.le_trans L M)) (big40 s16) (big40 sx.2)).mono fun v V16 l16 hv => ⟨_, hv, fun he => ?_, fun he => ?_⟩
             · have he : (at2 (at2 y.lo y.hi k) (at2 y.lo y.hi k).neg j).cmp x.hi ≤ 0 := by simpa using he
               have M2 := View.le_trans M l16
               refine (f09 (hx16.le M2) (hx13'.le M2) (big s16) (big s13) (hg2.le M2) (by simp only [List.length_append]; omega)).mono fun n' c' o' V17 l17 _ hg3 => ?_
               rw [i64w (by omega) (by omega)]
               refine ⟨stay ?_, by omega⟩
               have : colB x (at2 y.lo y.hi k) (at2 (at2 y.lo y.hi k) (at2 y.lo y.hi k).neg j) = [t03 (at2 (at2 y.lo y.hi k) (at2 y.lo y.hi k).neg j) (at2 y.lo y.hi k)] := by unfold colB; rw [if_pos ⟨ha, hc, hd, he⟩]
               rw [this]; exact hg3
             · have he : ¬ (at2 (at2 y.lo y.hi k) (at2 y.lo y.hi k).neg j).cmp x.hi ≤ 0 := by simpa using he
               rw [i64w (by omega) (by omega)]
               exact ⟨stay (none (View.le_trans M l16) fun h => he h.2.2.2), by omega⟩
           · have hd : ¬ x.lo.cmp (at2 (at2 y.lo y.hi k) (at2 y.lo y.hi k).neg j) ≤ 0 := by simpa using hd
             rw [i64w (by omega) (by omega)]
             exact ⟨stay (none (View.le_trans l14 l15) fun h => hd h.2.2.1), by omega⟩
         · have hc : (at2 y.lo y.hi k).sign = 0 := by simpa using hc
           rw [i64w (by omega) (by omega)]
           exact ⟨stay (none l14 fun h => h.2.1 hc), by omega⟩
       · have ha : ¬ (at2 y.lo y.hi k).inf = 0 := by rw [← hx13.inf]; simpa using ha
         rw [i64w (by omega) (by omega)]
         exact ⟨stay (none (View.le_refl V13) fun h => ha h.1), by omega⟩
     · simp only [decide_eq_false_iff_not] at hge2
       have hj2 : j = 2 := by omega
       subst hj2
       rw [i64w (by omega) (by omega)]
       refine ⟨⟨k + 1, by omega, by simp, ?_⟩, by omega⟩
       rw [← Z0r x y hk2]; exact hg2
   · simp only [decide_eq_false_iff_not] at hge
     have hk2 : k = 2 := by omega
     subst hk2
     intro b5 V18 l18 hb5
     obtain ⟨o, ho, hcs, hn⟩ := hgk.le l18
     have hL : d0g V18 ⟨lstA b5 r5c, r5l, r5c⟩ (P0c x y) := p0j ho hb5 hcs hn
     have hlen := Z0n x y 2
     have hsz := P0s (x := x) (y := y) sx sy
     refine (x0c hL (D0b x y) (Nat.le_trans hlen (by omega)) hsz).mono fun v V19 l19 ⟨r7, hv, h7⟩ => ⟨r7, hv, ?_⟩
     exact (o06 (hL.le l19) (D0b x y) (Nat.le_trans hlen (by omega)) hsz).mono fun v V20 l20 ⟨r8, hv, h8⟩ => ⟨r8, hv, _, rfl, h7.le l20, h8⟩
theorem g0h {x y : Es} (sx : E01 x (2 ^ 12)) (sy : E01 y (2 ^ 12)) : E01 (x.share y) (2 ^ 18) :=
 ⟨a0f (D0b x y) (O0a sx sy), a0f (D0b x y) (O0a sx sy)⟩

theorem M0u {s : Sk} (h : s.ok) : E01 s.set (2 ^ 12) := ⟨Nat.le_trans (M0a h.lo) (by omega), Nat.le_trans (M0a h.hi) (by omega)⟩
theorem w0l {V : View} {b : Bk} (h : b.ok) : a00 prog T0q #[b.v.val] V fun v _ => v = .tuple #[b.inv.v.val, .int .i64 b.invE] := by
 refine T0p b.v V _ ((k07 h).mono fun v V1 _ hv => ⟨_, hv, fun hc => ?_, fun hc => ?_⟩)
 · have hc : b.clear = false := by unfold Bk.clear; simpa using hc
   unfold Bk.inv Bk.invE; rw [hc]; rfl
 · have hc : b.clear = true := by unfold Bk.clear; simpa using hc
   have s1 := M0u h.re; have s2 := M0u h.im
   refine (q06 h.re).mono fun v V2 l2 ⟨x, hv, hx⟩ => ⟨x, hv, (q06 h.im).mono fun v V3 l3 ⟨y, hv, hy⟩ => ⟨y, hv, ?_⟩⟩
   refine (f0h (hx.le l3) hy s1 s2).mono fun v V4 l4 ⟨r, hv, hr⟩ => ⟨r, hv, ?_⟩
   refine (p06 hr (g0h s1 s2) (by omega)).mono fun v V5 l5 hv => ⟨_, hv, ?_⟩
   have L := View.le_trans l4 l5
   refine (f0h (hy.le L) (hx.le (View.le_trans l3 L)) s2 s1).mono fun v V6 l6 ⟨q, hv, hq⟩ => ⟨q, hv, ?_⟩
   refine (d0d hq).mono fun v V7 l7 ⟨p, hv, hp⟩ => ⟨p, hv, ?_⟩
   refine (p06 hp (f0j (g0h s2 s1)) (by omega)).mono fun v V8 l8 hv => ⟨_, hv, ?_⟩
   unfold Bk.inv Bk.invE; rw [hc]; rfl
theorem u0q {V : View} : a00 prog M0j #[] V fun v _ => v = .bool true := by
 refine p0i V _ ?_
 refine (L0s (c := CxV.mk 4607182418800017408 0) (d := CxV.mk 4611686018427387904 4607182418800017408) (by decide) (by decide) (by decide) (by decide)).mono fun v V1 _ hv => ⟨awB.v, 0, ?_, ?_⟩
 · rw [hv]
   show Value.tuple #[(mkB 4607182418800017408 0 4611686018427387904 4607182418800017408).v.val, .int .i64 (mkBE 4607182418800017408 0 4611686018427387904 4607182418800017408)] = _
   rw [a0n.1, a0n.2]
 have ok : awB.ok := by rw [← a0n.1]; exact u0w _ _ _ _
 have okP : awP.ok := by rw [← x0u]; exact Bk.mul_ok _ _
 refine (w0l ok).mono fun v V2 _ hv => ⟨awB.invB.v, 0, ?_, ?_⟩
 · rw [hv]; unfold Bk.inv Bk.invE; rw [J0i.1]; rfl
 refine (t0l ok ok).mono fun v V3 _ hv => ⟨awP.v, by rw [hv, x0u], ⟨fun _ => ⟨fun _ => ?_, fun h => absurd h (by decide)⟩, fun h => absurd h (by decide)⟩⟩
 refine (d0j awP.v).mono fun v V4 _ hv => ⟨CxV.mk 0 0, hv, fun _ => ?_, fun h => absurd h (by decide +kernel)⟩
 refine (e0j awP.v).mono fun v V5 _ hv => ⟨CxV.mk 4616189618054758400 4616189618054758400, hv, fun _ => ?_, fun h => absurd h (by decide +kernel)⟩
 have e1 : awB.invB.v.im.lo = 13826050856027422720 := by show k00 awB.invB.im.lo = _; rw [y0u.1]; decide
 have e2 : awB.invB.v.re.hi = 4607182418800017408 := by show k00 awB.invB.re.hi = _; rw [y0u.2]; decide
 refine (d0j awB.invB.v).mono fun v V6 _ hv => ⟨CxV.mk awB.invB.v.re.lo 13826050856027422720, by rw [hv, e1], fun _ => ?_, fun h => absurd h (by decide +kernel)⟩
 refine (e0j awB.invB.v).mono fun v V7 _ hv => ⟨CxV.mk 4607182418800017408 awB.invB.v.im.hi, by rw [hv, e2], fun _ => ?_, fun h => absurd h (by decide +kernel)⟩
 refine (k07 ok).mono fun v V8 _ hv => ⟨true, by rw [hv]; exact congrArg Value.bool J0i.1, fun _ => ?_, fun h => absurd h (by decide)⟩
 exact (k07 okP).mono fun v V9 _ hv => ⟨false, by rw [hv]; exact congrArg Value.bool J0i.2, rfl⟩
theorem O09 {V : View} (x y : Nat) : a00 prog N0j #[.float .f64 x, .float .f64 y] V fun v _ => v = .bool (decide (x = y)) := by
 refine o0i x y V _ ⟨_, a05 x, _, a05 y, ?_⟩
 congr 1
 by_cases h : x = y
 · subst h; simp
 · have : ¬ (x : Int) = y := by omega
   simp [h, this]
theorem g08 {V : View} {x : Nat} (h : okW x) : a00 prog m0p #[.float .f64 x] V fun v _ => v = .float .f64 (k00 (key x)) := by
 have z0 : okW 0 := ⟨by decide, by decide⟩
 have k0 : key 0 = 0 := by decide
 refine M0m x V _ ⟨fun hc => ?_, fun hc => ?_⟩
 · rw [l08 h z0, k0] at hc
   have hc : key x = 0 := by simpa using hc
   rw [hc]; rfl
 · rw [l08 h z0, k0] at hc
   have hc : ¬ key x = 0 := by simpa using hc
   have : k00 (key x) = x := U0k h.1 (by rintro rfl; exact hc (by decide))
   rw [this]
theorem M0b {V : View} {x y : Nat} (hx : x < 2 ^ 64) (hy : y < 2 ^ 64) : a00 prog k0e #[.float .f64 x, .float .f64 y] V fun v _ => v = .tuple #[(mkS x y).v.val, .int .i64 (mkE x y)] := by
 have bad : ∀ {e : Int}, mkE x y = e → e ≠ 0 → (Value.tuple #[(SpV.mk 0 0).val, .int .i64 e]) = .tuple #[(mkS x y).v.val, .int .i64 (mkE x y)] := by
  intro e he h0
  unfold mkS; rw [he, if_neg h0, G0o]
 refine u0d x y V _ ((H04 hx).mono fun v V1 _ hv => ⟨_, hv, fun hc => ?_, fun hc => ?_⟩)
 · have hc : ¬ okW x := by simpa using hc
   exact bad (by unfold mkE; rw [if_pos (.inl hc)]) (by decide)
 have h1 : okW x := by simpa using hc
 refine (H04 hy).mono fun v V2 _ hv => ⟨_, hv, fun hc => ?_, fun hc => ?_⟩
 · have hc : ¬ okW y := by simpa using hc
   exact bad (by unfold mkE; rw [if_pos (.inr (.inl hc))]) (by decide)
 have h2 : okW y := by simpa using hc
 refine (J0d hx).mono fun v V3 _ hv => ⟨_, hv, fun hc => ?_, fun hc => ?_⟩
 · have hc : key x = (infR : Int) := by simp only [decide_eq_true_eq] at hc; exact hc.2
   exact bad (by unfold mkE; rw [if_pos (.inr (.inr (.inl hc)))]) (by decide)
 have h3 : ¬ key x = (infR : Int) := by simp only [decide_eq_false_iff_not] at hc; exact fun e => hc ⟨h1, e⟩
 refine (H09 hy).mono fun v V4 _ hv => ⟨_, hv, fun hc => ?_, fun hc => ?_⟩
 · have hc : key y = -(infR : Int) := by simp only [decide_eq_true_eq] at hc; exact hc.2
   exact bad (by unfold mkE; rw [if_pos (.inr (.inr (.inr hc)))]) (by decide)
 have h4 : ¬ key y = -(infR : Int) := by simp only [decide_eq_false_iff_not] at hc; exact fun e => hc ⟨h2, e⟩
 have hno : ¬ (¬ okW x ∨ ¬ okW y ∨ key x = (infR : Int) ∨ key y = -(infR : Int)) := by
  rintro (h | h | h | h)
  · exact h h1
  · exact h h2
  · exact h3 h
  · exact h4 h
 refine ⟨fun hc => ?_, fun hc => ?_⟩
 · rw [m0a h1 h2] at hc
   have hc : key y < key x := by simpa using hc
   exact bad (by unfold mkE; rw [if_neg hno, if_pos hc]) (by decide)
 · rw [m0a h1 h2] at hc
   have hc : ¬ key y < key x := by simpa using hc
   have he : mkE x y = 0 := by unfold mkE; rw [if_neg hno, if_neg hc]
   refine (g08 h1).mono fun v V5 _ hv => ⟨_, hv, (g08 h2).mono fun v V6 _ hv => ⟨_, hv, ?_⟩⟩
   unfold mkS; rw [he, if_pos rfl]; rfl
theorem q0a {V : View} {p : y0h} (h1 : U64 p.lo) (h2 : U64 p.hi) : a00 prog i0d #[p.val] V fun v _ => ∃ (s : Sk) (c : Bool), s.ok ∧ (c = true → s.proper) ∧ v = .tuple #[s.v.val, s.v.val, .bool c] := by
 obtain ⟨a, ha, ha2⟩ := h1.nat
 obtain ⟨b, hb, hb2⟩ := h2.nat
 have floats : a00 prog c0b #[p.val] V fun v _ => ∃ x y : Nat, x < 2 ^ 64 ∧ y < 2 ^ 64 ∧ v = .tuple #[.float .f64 x, .float .f64 y] := by
  refine D0a p V _ ⟨a, by rw [ha]; exact F03 a, b, by rw [hb]; exact F03 b, fun _ => ?_, fun _ => ?_⟩
  · exact ⟨b, a, hb2, ha2, rfl⟩
  · exact ⟨a, b, ha2, hb2, rfl⟩
 refine j0c p V _ (floats.mono fun v V1 _ ⟨x, y, hx, hy, hv⟩ => ⟨x, y, hv, ?_⟩)
 refine (M0b hx hy).mono fun v V2 _ hv => ⟨_, _, hv, fun hc => ?_, fun hc => ?_⟩
 · exact ⟨Sk.nil, false, Sk.nil_ok, fun h => absurd h (by decide), rfl⟩
 · have hc : mkE x y = 0 := by simpa using hc
   refine (f08 hx hy).mono fun v V3 _ hv => ⟨_, _, hv, mkS x y, true, X0r x y, fun _ => g0q hc, rfl⟩

theorem H0v {V : View} (b : BoxV) : a00 prog S0q #[b.val, b.val] V fun v _ => v = .bool true := by
 refine S0p b b V _ ((d0j b).mono fun v V1 _ hv => ⟨CxV.mk _ _, hv, (O09 _ _).mono fun v V2 _ hv => ⟨_, hv, fun _ => ?_, fun h => absurd h (by simp)⟩⟩)
 refine (d0j b).mono fun v V3 _ hv => ⟨CxV.mk _ _, hv, (O09 _ _).mono fun v V4 _ hv => ⟨_, hv, fun _ => ?_, fun h => absurd h (by simp)⟩⟩
 refine (e0j b).mono fun v V5 _ hv => ⟨CxV.mk _ _, hv, (O09 _ _).mono fun v V6 _ hv => ⟨_, hv, fun _ => ?_, fun h => absurd h (by simp)⟩⟩
 exact (e0j b).mono fun v V7 _ hv => ⟨CxV.mk _ _, hv, (O09 _ _).mono fun v V8 _ hv => ⟨_, hv, by simp⟩⟩
theorem Q0s {V : View} {p : y08} (h : p.u64) : a00 prog f0c #[p.val] V fun v _ => ∃ (b : Bk) (c : Bool), b.ok ∧ (c = true → b.proper) ∧ v = .tuple #[b.v.val, b.v.val, .bool c] := by
 obtain ⟨h1, h2, h3, h4⟩ := h
 refine t0b p V _ ((q0a h1 h2).mono fun v V1 _ ⟨s, c, hs, hc, hv⟩ => ⟨_, _, _, hv, ?_⟩)
 refine (q0a h3 h4).mono fun v V2 _ ⟨t, d, ht, hd, hv⟩ => ⟨_, _, _, hv, ?_⟩
 refine (M0s s.v t.v).mono fun v V3 _ hv => ⟨_, hv, fun hcc => ?_, fun _ => ?_⟩
 · exact ⟨⟨s, t⟩, d, ⟨hs, ht⟩, fun hdd => ⟨hc hcc, hd hdd⟩, rfl⟩
 · exact ⟨⟨s, t⟩, false, ⟨hs, ht⟩, fun h => absurd h (by decide), rfl⟩

theorem S0s (x m k : Nat) : (if decide (sgI x m < 0) = true then -((m * 2 ^ k : Nat) : Int) else ((m * 2 ^ k : Nat) : Int)) = sgI x (m * 2 ^ k) := by
 by_cases z : m = 0
 · subst z; rw [Nat.zero_mul]; unfold sgI; split <;> split <;> rfl
 · have hp : 0 < 2 ^ k := Nat.pow_pos (by omega)
   have : 0 < m * 2 ^ k := Nat.mul_pos (by omega) hp
   unfold sgI
   by_cases c : 2 ^ 63 ≤ x
   · rw [if_pos c, if_pos c, if_pos (by rw [decide_eq_true_iff]; omega)]
   · rw [if_neg c, if_neg c, if_neg (by rw [decide_eq_true_iff]; omega)]
theorem z0d {V : View} {x : Nat} (h : finW x) : a00 prog I0h #[.float .f64 x] V fun v V' => ∃ r : NumV, v = r.val ∧ QAt V' r ⟨fq x, 0⟩ := by
 have h64 := h.1
 have hfl : fld x < 2048 := by unfold fld; omega
 have hu := w0c x
 have hml := P0e x
 have hp52 : (2 : Int) ^ (min (Int.toNat 52) u64.bits) = ((2 ^ 52 : Nat) : Int) := by decide
 have hp63 : (2 : Int) ^ (min (Int.toNat 63) u64.bits) = ((2 ^ 63 : Nat) : Int) := by decide
 have e1 : i64.wrap (u64.wrap (BitVec.toNat ((BitVec.ofInt u64.bits (Int.fdiv (x : Int) (2 ^ (min (Int.toNat 52) (u64.bits))))) &&& (BitVec.ofInt u64.bits 2047)))) = (fld x : Int) := by
  have := J09 (x := x / 2 ^ 52) (m := 2047) (by omega) (by omega)
  have e : x / 2 ^ 52 &&& 2047 = fld x := Nat.and_two_pow_sub_one_eq_mod (x / 2 ^ 52) 11
  rw [e] at this
  rw [hp52, J0b]
  rw [show (((2047 : Nat)) : Int) = 2047 from rfl] at this
  rw [this, i64w (by omega) (by omega)]
 have e2 : u64.wrap (BitVec.toNat ((BitVec.ofInt u64.bits (x : Int)) &&& (BitVec.ofInt u64.bits 4503599627370495))) = ((x % 2 ^ 52 : Nat) : Int) := by
  have := J09 (x := x) (m := 4503599627370495) (by omega) (by omega)
  have e : x &&& 4503599627370495 = x % 2 ^ 52 := Nat.and_two_pow_sub_one_eq_mod x 52
  rw [e] at this
  exact this
 have e3 : ((Int.fdiv (x : Int) (2 ^ (min (Int.toNat 63) (u64.bits))) : Int) == 1) = decide (2 ^ 63 ≤ x) := by
  rw [hp63, J0b]
  by_cases c : 2 ^ 63 ≤ x
  · have : x / 2 ^ 63 = 1 := by omega
    rw [this, decide_eq_true c]; rfl
  · have : x / 2 ^ 63 = 0 := by omega
    rw [this, decide_eq_false c]; rfl
 refine C0f x V _ ⟨x, a05 x, ?_⟩
 rw [e1, e2, e3]
 have hw : ∀ {V1 : View} {s : Sl} {n : Nat}, e00 V1 s n → n = mant x → a00 prog e06 #[.bool (decide (2 ^ 63 ≤ x)), s.v] V1 fun v V' => ∃ r : WhV, v = r.val ∧ I00 V' r (sgI x (mant x)) := by
  intro V1 s n hs hn
  refine (A01 (decide (2 ^ 63 ≤ x)) hs).mono fun v V2 _ ⟨r, hv, hr⟩ => ⟨r, hv, ?_⟩
  subst hn
  unfold sgI
  by_cases c : 2 ^ 63 ≤ x
  · rw [decide_eq_true c] at hr; rw [if_pos c]; simpa using hr
  · rw [decide_eq_false c] at hr; rw [if_neg c]; simpa using hr
 -- below the e04 of the ones
 have low : ∀ {V : View} {r2 : WhV} {k : Nat}, I00 V r2 (sgI x (mant x)) → (k : Int) = 1075 - (up1 x : Int) → ∀ (b2 : Nat) (V6 : View), View.le V V6 → View.Fin V6 → V6 b2 = some #[.int .u32 1] →
  a00 prog Q07 #[(Sl.mk (some (Addr.mk b2 0 none)) 1 1).v, .int .i64 (k : Int)] V6 fun v V7 => ∃ r5 : Sl, v = r5.v ∧ a00 prog P07 #[r2.val, (WhV.mk false (Sl.mk none 0 0)).val, r5.v] V7 fun v V8 => ∃ r6 : NumV, v = r6.val ∧ ∃ r : NumV, r6.val = r.val ∧ QAt V8 r ⟨fq x, 0⟩ := by
  intro V r2 k hr hk b2 V6 l6 _ hb2
  refine (z01 (n := k) (e00.lit (n := 1) hb2 (by omega) (by omega)) (Nat.le_trans a0d (by decide)) (by omega)).mono fun v V7 l7 ⟨r5, hv, h5⟩ => ⟨r5, hv, ?_⟩
  rw [Nat.one_mul] at h5
  have R : Rep ⟨fq x, 0⟩ (sgI x (mant x)) 0 (2 ^ k) := by
   refine ⟨X0g k, ?_, e09 _⟩
   have := a0j (x := x) (k := k) (n := 0) h64 (by omega)
   rw [Nat.pow_zero, Nat.mul_one] at this
   exact this
  have b2k := Z01 k
  refine (e02 (hr.le (View.le_trans l6 l7)) (I00.zero V7) h5 R ?_ (by rw [Int.natAbs_zero, P03]; omega) (J04 (by omega))).mono fun v V8 _ ⟨r6, hv, h6⟩ => ⟨r6, hv, r6, rfl, h6⟩
  rw [Q0e]; exact wn64 (by omega)
 refine ⟨fun hc => ?_, fun hc => ?_⟩
 · have hc : ((fld x : Nat) : Int) = 0 := by simpa using hc
   have hf0 : fld x = 0 := by omega
   have em : x % 2 ^ 52 = mant x := by unfold mant; rw [if_pos hf0]
   have eu : up1 x = 1 := by unfold up1; rw [if_pos hf0]
   rw [em]
   refine (m03 (n := ((mant x : Nat) : Int)) (by omega) (by omega)).mono fun v V1 _ ⟨s, hv, hs⟩ => ⟨s, hv, ?_⟩
   refine (hw hs (by omega)).mono fun v V2 _ ⟨r, hv, hr⟩ => ⟨r, hv, fun g => absurd g (by decide), fun _ => ?_⟩
   have w : i64.wrap (1075 - 1) = ((1074 : Nat) : Int) := by decide
   rw [w]
   exact low (k := 1074) hr (by omega)
 · have hf0 : fld x ≠ 0 := fun e => by rw [e] at hc; simp at hc
   have eu : up1 x = fld x := by unfold up1; rw [if_neg hf0]
   have e4 : u64.wrap (BitVec.toNat ((BitVec.ofInt u64.bits ((x % 2 ^ 52 : Nat) : Int)) ||| (BitVec.ofInt u64.bits 4503599627370496))) = ((mant x : Nat) : Int) := by
    have := Y0g (x := x % 2 ^ 52) (m := 4503599627370496) (by omega) (by omega)
    have hor := Nat.two_pow_add_eq_or_of_lt (i := 52) (b := x % 2 ^ 52) (by omega) 1
    have e : x % 2 ^ 52 ||| 4503599627370496 = mant x := by
     rw [Nat.or_comm]
     have h1 : 2 ^ 52 * 1 = 4503599627370496 := by decide
     rw [h1] at hor
     rw [← hor]; unfold mant; rw [if_neg (by omega)]; omega
    rw [e] at this
    exact this
   rw [e4]
   refine (m03 (n := ((mant x : Nat) : Int)) (by omega) (by omega)).mono fun v V1 _ ⟨s, hv, hs⟩ => ⟨s, hv, ?_⟩
   refine (hw hs (by omega)).mono fun v V2 _ ⟨r, hv, hr⟩ => ⟨r, hv, fun hg => ?_, fun hg => ?_⟩
   · have hg : ((fld x : Nat) : Int) ≥ 1075 := by simpa using hg
     obtain ⟨k, hk⟩ : ∃ k : Nat, fld x = 1075 + k := ⟨fld x - 1075, by omega⟩
     have w : i64.wrap (((fld x : Nat) : Int) - 1075) = (k : Int) := by rw [i64w (by omega) (by omega)]; omega
     rw [w]
     have hr2 := hr.2
     rw [Q0e] at hr2
     refine (z01 (n := k) hr2 (Nat.le_trans (wn64 (by omega)) (by decide)) (by omega)).mono fun v V3 l3 ⟨r3, hv, h3⟩ => ⟨r3, hv, ?_⟩
     refine (A01 r.neg h3).mono fun v V4 l4 ⟨r4, hv, h4⟩ => ⟨r4, hv, fun b V5 l5 _ hb => ⟨_, rfl, ?_⟩⟩
     rw [hr.1, S0s] at h4
     have e5 : fq x = ((sgI x (mant x * 2 ^ k) : Int) : Rat) := by
      have := a0j (x := x) (k := 0) (n := k) h64 (by omega)
      rw [this, Nat.pow_zero, Rat.div_def]
      have : ((1 : Nat) : Rat)⁻¹ = 1 := by decide +kernel
      rw [this, Rat.mul_one]
     have q := b07 (sgI x (mant x * 2 ^ k))
     rw [← e5] at q
     exact ⟨by rw [q.1]; exact h4.le l5, by rw [q.2.1]; exact I00.zero _, by rw [q.2.2]; exact e00.lit (n := 1) hb (by omega) (by omega)⟩
   · have hg : ¬ ((fld x : Nat) : Int) ≥ 1075 := by simpa using hg
     obtain ⟨k, hk⟩ : ∃ k : Nat, (k : Int) = 1075 - (fld x : Int) := ⟨1075 - fld x, by omega⟩
     have w : i64.wrap (1075 - ((fld x : Nat) : Int)) = (k : Int) := by rw [i64w (by omega) (by omega)]; omega
     rw [w]
     exact low hr (by omega)
theorem b0f {V : View} {x : Nat} (h : finW x) : a00 prog W0j #[.float .f64 x] V fun v V' => ∃ r : NumV, v = .tuple #[r.val, .int .i64 0] ∧ QAt V' r ⟨fq x, 0⟩ := by
 refine b0i x V _ ((y0d h.1).mono fun v V1 _ hv => ⟨_, hv, fun hc => ?_, fun _ => ?_⟩)
 · rw [decide_eq_true h.2] at hc; exact absurd hc (by decide)
 · exact (z0d h).mono fun v V2 _ ⟨r, hv, hr⟩ => ⟨r, hv, r, rfl, hr⟩
theorem o03 {V : View} {k : Int} (hk : inK k) : a00 prog e0r #[.float .f64 (k00 k)] V fun v V' => ∃ b : BdV, v = b.val ∧ BqAt V' b (endE k) := by
 have h := okK hk
 have hx := keyK hk
 have whole : ∀ {V : View}, a00 prog A08 #[.int .i64 0] V fun v V' => ∃ r : NumV, v = r.val ∧ QAt V' r ⟨((0 : Int) : Rat), 0⟩ := Q03 (by omega) (by omega)
 refine N0p (k00 k) V _ ((J0d h.1).mono fun v V1 _ hv => ⟨_, hv, fun hc => ?_, fun hc => ?_⟩)
 · have hc : k = (infR : Int) := by simp only [decide_eq_true_eq] at hc; rw [← hx]; exact hc.2
   refine whole.mono fun v V2 _ ⟨r, hv, hr⟩ => ⟨r, hv, _, rfl, ?_⟩
   unfold endE; rw [if_pos hc]; exact .zero hr (.inr ⟨rfl, .inl rfl⟩)
 have hc : k ≠ (infR : Int) := by simp only [decide_eq_false_iff_not] at hc; rw [hx] at hc; exact fun e => hc ⟨h, e⟩
 refine (H09 h.1).mono fun v V2 _ hv => ⟨_, hv, fun hd => ?_, fun hd => ?_⟩
 · have hd : k = -(infR : Int) := by simp only [decide_eq_true_eq] at hd; rw [← hx]; exact hd.2
   refine whole.mono fun v V2 _ ⟨r, hv, hr⟩ => ⟨r, hv, _, rfl, ?_⟩
   unfold endE; rw [if_neg hc, if_pos hd]; exact .zero hr (.inr ⟨rfl, .inr rfl⟩)
 have hd : k ≠ -(infR : Int) := by simp only [decide_eq_false_iff_not] at hd; rw [hx] at hd; exact fun e => hd ⟨h, e⟩
 have hf : finW (k00 k) := by unfold inK at hk; exact O0r (by omega) (by omega)
 refine (b0f hf).mono fun v V3 _ ⟨r, hv, hr⟩ => ⟨r, 0, hv, ?_⟩
 have e : fq (k00 k) = fkq k := by rw [K0u, hx]
 rw [e] at hr
 refine (Z0c hr).mono fun v V4 _ ⟨b, hv, hb⟩ => ⟨b, hv, b, rfl, ?_⟩
 unfold endE; rw [if_neg hc, if_neg hd]; exact hb
def bqC (V : View) (x : List Value) (e : Eb) : Prop := ∃ b : BdV, x = b.val.cells.toList ∧ BqAt V b e
theorem bqC.le {V V' : View} (hle : V.le V') (x : List Value) (e : Eb) (h : bqC V x e) : bqC V' x e := by
 obtain ⟨b, e1, hb⟩ := h; exact ⟨b, e1, hb.le hle⟩
def I0v (V : View) (s : Sl) (es : List Eb) : Prop := P02 6 bqC V s es
theorem I0v.le {V V' : View} (hle : V.le V') {s : Sl} {es : List Eb} (h : I0v V s es) : I0v V' s es := P02.le (bqC.le hle) hle h
theorem c0f {V : View} {a b : BdV} {e f : Eb} (ha : BqAt V a e) (hb : BqAt V b f) (hz : e.num.sz ≤ 2 ^ 30) (hw : f.num.sz ≤ 2 ^ 30) : a00 prog O0j #[a.val, b.val] V fun v _ => v = (Sk.v (Es.span ⟨e, f⟩)).val := by
 have il := ha.inf
 have ih := hb.inf
 refine f0i a b V _ (m0o.mono fun v V1 l1 hv => ⟨_, hv, a09.mono fun v V2 l2 hv => ⟨_, hv, fun h1 => ?_, fun h1 => ?_⟩⟩)
 · have h1 : e.inf = 0 := by rw [← il]; simpa using h1
   refine (k02 (ha.num.le (View.le_trans l1 l2)) hz).mono fun v V3 l3 hv => ⟨_, hv, fun h2 => ?_, fun h2 => ?_⟩
   · have h2 : f.inf = 0 := by rw [← ih]; simpa using h2
     refine (K01 (hb.num.le (View.le_trans l1 (View.le_trans l2 l3))) hw).mono fun v V4 l4 hv => ⟨_, hv, ?_⟩
     unfold Es.span Sk.v; rw [if_pos h1, if_pos h2]; rfl
   · have h2 : f.inf ≠ 0 := by rw [← ih]; simpa using h2
     unfold Es.span Sk.v; rw [if_pos h1, if_neg h2, ← x0o]; rfl
 · have h1 : e.inf ≠ 0 := by rw [← il]; simpa using h1
   refine ⟨fun h2 => ?_, fun h2 => ?_⟩
   · have h2 : f.inf = 0 := by rw [← ih]; simpa using h2
     refine (K01 (hb.num.le (View.le_trans l1 l2)) hw).mono fun v V4 l4 hv => ⟨_, hv, ?_⟩
     unfold Es.span Sk.v; rw [if_neg h1, if_pos h2, ← K0d]; rfl
   · have h2 : f.inf ≠ 0 := by rw [← ih]; simpa using h2
     unfold Es.span Sk.v; rw [if_neg h1, if_neg h2, ← x0o, ← K0d]

theorem P05 {k : Int} (h : inK k) : (endE k).num.sz ≤ 2 ^ 12 := Nat.le_trans (M0a h) (by omega)
theorem N0b {V : View} {s t : Sk} (h : s.ok) (k : t.ok) : a00 prog z08 #[s.v.val, t.v.val] V fun v _ => v = (Sk.v (s.set.add t.set.neg).span).val := by
 have a1 := P05 h.lo; have a2 := P05 h.hi; have a3 := P05 k.lo; have a4 := P05 k.hi
 have n1 := I04 (endE t.lo); have n2 := I04 (endE t.hi)
 have s1 := K09 (endE s.lo) (endE t.hi).neg; have s2 := K09 (endE s.hi) (endE t.lo).neg
 refine o0d s.v t.v V _ ((o03 h.lo).mono fun v V1 l1 ⟨r1, hv, h1⟩ => ⟨r1, hv, (o03 k.hi).mono fun v V2 l2 ⟨r2, hv, h2⟩ => ⟨r2, hv, ?_⟩⟩)
 refine (c09 h2).mono fun v V3 l3 ⟨r3, hv, h3⟩ => ⟨r3, hv, ?_⟩
 refine (o0a (h1.le (View.le_trans l2 l3)) h3 (by omega) (by omega)).mono fun v V4 l4 ⟨r4, hv, h4⟩ => ⟨r4, hv, ?_⟩
 refine (o03 h.hi).mono fun v V5 l5 ⟨r5, hv, h5⟩ => ⟨r5, hv, (o03 k.lo).mono fun v V6 l6 ⟨r6, hv, h6⟩ => ⟨r6, hv, ?_⟩⟩
 refine (c09 h6).mono fun v V7 l7 ⟨r7, hv, h7⟩ => ⟨r7, hv, ?_⟩
 refine (o0a (h5.le (View.le_trans l6 l7)) h7 (by omega) (by omega)).mono fun v V8 l8 ⟨r8, hv, h8⟩ => ⟨r8, hv, ?_⟩
 exact (c0f (h4.le (View.le_trans l5 (View.le_trans l6 (View.le_trans l7 l8)))) h8 (by omega) (by omega)).mono fun v V9 _ hv => ⟨_, hv, rfl⟩
theorem x0l {V : View} {s : Sk} (h : s.ok) (p : s.proper) : a00 prog z08 #[(SpV.mk 0 0).val, s.v.val] V fun v _ => v = s.neg.v.val :=
 (N0b Sk.nil_ok h).mono fun v _ _ hv => by rw [hv, P0t h p]
theorem O0b {V : View} {b : Bk} (h : b.ok) (p : b.proper) : a00 prog g0e #[b.v.val] V fun v _ => v = b.conj.v.val :=
 s0d b.v V _ ((x0l h.im p.2).mono fun _ _ _ hv => ⟨_, hv, rfl⟩)
theorem s0a {V : View} {a : BdV} {e : Eb} (ha : BdAt V a e) (hz : e.num.sz ≤ 2 ^ 40) : a00 prog n0m #[a.val] V fun v V' => ∃ b : BdV, v = b.val ∧ BdAt V' b e.abs := by
 refine p0k a V _ ((K02 ha hz).mono fun v V1 l1 hv => ⟨_, hv, fun h => ?_, fun h => ?_⟩)
 · have h : e.sign < 0 := by simpa using h
   exact (Y00 (ha.le l1)).mono fun v V2 _ ⟨b, hv, hb⟩ => ⟨b, hv, b, rfl, by unfold Eb.abs; rw [if_pos h]; exact hb⟩
 · have h : ¬ e.sign < 0 := by simpa using h
   exact ⟨a, rfl, by unfold Eb.abs; rw [if_neg h]; exact ha.le l1⟩
theorem B0o (e : Eb) : e.abs.num.sz = e.num.sz := by
 unfold Eb.abs; split
 · exact I04 e
 · rfl
theorem d0f {V : View} : a00 prog o0m #[.int .i64 0] V fun v V' => ∃ b : BdV, v = b.val ∧ BdAt V' b (Eb.fin 0) := by
 refine q0k 0 V _ ((X0c (by omega) (by omega)).mono fun v V1 _ ⟨r, hv, hr⟩ => ⟨r, hv, _, rfl, rfl, ?_, .inl rfl⟩)
 rw [Rat.intCast_zero] at hr; exact hr
theorem T0s {e : Es} {S : Nat} (he : E01 e S) (hS : 1 ≤ S) : E01 e.size S := by
 have a := B0o e.lo; have b := B0o e.hi; have c := he.1; have d := he.2
 have p : ∀ way, (Eb.pick way [e.lo.abs, e.hi.abs]).num.sz ≤ S := fun way => a0f (by simp) (by intro x hx; simp at hx; rcases hx with rfl | rfl <;> omega)
 unfold Es.size; split
 · exact ⟨Nat.le_trans c0j hS, p 1⟩
 · exact ⟨p (-1), p 1⟩
theorem i0j {V : View} {s : SetV} {e : Es} (h : EsAt V s e) {S : Nat} (he : E01 e S) (hS : S ≤ 2 ^ 30) : a00 prog k0p #[s.val] V fun v V' => ∃ r : SetV, v = r.val ∧ EsAt V' r e.size := by
 have a := B0o e.lo; have b := B0o e.hi; have c := he.1; have d := he.2
 have p : ∀ x ∈ [e.lo.abs, e.hi.abs], x.num.sz ≤ 2 ^ 40 := by intro x hx; simp at hx; rcases hx with rfl | rfl <;> omega
 refine G0m s V _ ((s0a h.lo (by omega)).mono fun v V1 l1 ⟨r1, hv, h1⟩ => ⟨r1, hv, (s0a (h.hi.le l1) (by omega)).mono fun v V2 l2 ⟨r2, hv, h2⟩ => ⟨r2, hv, ?_⟩⟩)
 refine (L0b (h.le (View.le_trans l1 l2)) he hS).mono fun v V3 l3 hv => ⟨_, hv, fun hc => ?_, fun hc => ?_⟩
 · refine d0f.mono fun v V4 l4 ⟨r4, hv, h4⟩ => ⟨r4, hv, fun b1 V5 l5 _ hb1 => ?_⟩
   have L := View.le_trans l3 (View.le_trans l4 l5)
   refine (o06 (N0a (h1.le (View.le_trans l2 L)) (h2.le L) hb1) (by simp) (by simp) p).mono fun v V6 l6 ⟨r5, hv, h5⟩ => ⟨r5, hv, _, rfl, ?_⟩
   unfold Es.size; rw [if_pos hc]; exact ⟨h4.le (View.le_trans l5 l6), h5⟩
 · intro b2 V7 l7 _ hb2
   have L := View.le_trans l3 l7
   refine (x0c (N0a (h1.le (View.le_trans l2 L)) (h2.le L) hb2) (by simp) (by simp) p).mono fun v V8 l8 ⟨r6, hv, h6⟩ => ⟨r6, hv, fun b3 V9 l9 _ hb3 => ?_⟩
   have L2 := View.le_trans L (View.le_trans l8 l9)
   refine (o06 (N0a (h1.le (View.le_trans l2 L2)) (h2.le L2) hb3) (by simp) (by simp) p).mono fun v V10 l10 ⟨r7, hv, h7⟩ => ⟨r7, hv, _, rfl, ?_⟩
   unfold Es.size; rw [if_neg (by rw [hc]; decide)]; exact ⟨h6.le (View.le_trans l9 l10), h7⟩
def Sk.square (s : Sk) : Sk := s.set.square.span
def Bk.norm (b : Bk) : Sk := (b.re.set.square.add b.im.set.square).span
theorem BqAt.ok2 {V : View} {b : BdV} {e : Eb} (h : BqAt V b e) : e.ok := h.ok

theorem f0d {V : View} {x : NumV} {z : Cq} (h : QAt V x z) (hz : z.sz ≤ 2 ^ 40) : a00 prog i0r #[x.val] V fun v V' => ∃ r : NumV, v = r.val ∧ QAt V' r ⟨z.re, 0⟩ := by
 have zA := Cq.wA hz; have zB := Cq.wB hz; have zD := Cq.wD hz
 exact Q0p x V _ ((e02 h.re (I00.zero V) h.under (z0n z.canon.rep) (by omega) (by rw [Int.natAbs_zero, P03]; omega) (by omega)).mono fun v V' _ ⟨r, hv, hq⟩ => ⟨r, hv, r, rfl, hq⟩)
theorem t0a {V : View} {s t : Sk} (h : s.ok) (k : t.ok) : a00 prog b0m #[s.v.val, t.v.val] V fun v _ => v = (s.hull t).v.val := by
 refine C0k s.v t.v V _ ⟨o0c h.lo k.lo, o0c h.hi k.hi, ?_⟩
 show (SpV.mk (fmin .f64 (k00 s.lo) (k00 t.lo)) (fmax .f64 (k00 s.hi) (k00 t.hi))).val = _
 rw [C0t h.lo k.lo, U0n h.hi k.hi]; rfl
theorem P0b {V : View} {b c : Bk} (h : b.ok) (k : c.ok) : a00 prog i0e #[b.v.val, c.v.val] V fun v _ => v = (b.hull c).v.val :=
 t0d b.v c.v V _ ((t0a h.re k.re).mono fun _ _ _ hv => ⟨_, hv, (t0a h.im k.im).mono fun _ _ _ hv => ⟨_, hv, rfl⟩⟩)

theorem u0a {V : View} {x : NumV} {z : Cq} (h : QAt V x z) : a00 prog u0m #[x.val] V fun v _ => v = .bool (decide (z = Cq.zero)) := by
 have a := h.re.2.len_zero; have b := h.im.2.len_zero
 have zA := A_zero (z := z); have zB := B_zero (z := z)
 have key : z = Cq.zero ↔ x.re.mag.len = 0 ∧ x.im.mag.len = 0 := by
  rw [a, b, Int.natAbs_eq_zero, Int.natAbs_eq_zero, zA, zB]
  exact ⟨fun e => by rw [e]; exact ⟨rfl, rfl⟩, fun ⟨h1, h2⟩ => Cq.ext' h1 h2⟩
 refine o0k x V _ ⟨fun hc => ?_, fun hc => ?_⟩
 · have hc : x.re.mag.len = 0 := by have : (x.re.mag.len : Int) = 0 := by simpa using hc
                                    omega
   congr 1
   by_cases d : x.im.mag.len = 0
   · rw [decide_eq_true (key.2 ⟨hc, d⟩), d]; rfl
   · rw [decide_eq_false (fun e => d (key.1 e).2)]; simpa using d
 · have hc : ¬ x.re.mag.len = 0 := by have : ¬ (x.re.mag.len : Int) = 0 := by simpa using hc
                                      omega
   rw [decide_eq_false (fun e => hc (key.1 e).1)]
theorem C0o (a : Int) (n : Nat) : ((a * (n : Int) : Int) : Rat) = (a : Rat) * (n : Rat) := by rw [Rat.intCast_mul]; rfl
theorem j0j {V : View} {x y : NumV} {z w : Cq} (hx : QAt V x z) (hy : QAt V y w) (hz : z.sz ≤ 2 ^ 36) (hw : w.sz ≤ 2 ^ 36) :
 a00 prog D0g #[x.val, y.val] V fun v V' => ∃ (r : NumV) (e : Int), v = .tuple #[r.val, .int .i64 e] ∧ QAt V' r (z.div w) ∧ (w ≠ Cq.zero → e = 0) := by
 have cz := k0h w
 refine F0m x y V _ ((u0a hy).mono fun v V1 l1 hv => ⟨_, hv, fun hc => ?_, fun hc => ?_⟩)
 · have hc : w = Cq.zero := by simpa using hc
   refine (Q03 (by omega) (by omega)).mono fun v V2 _ ⟨r, hv, hr⟩ => ⟨r, hv, _, _, rfl, ?_, fun h => absurd hc h⟩
   have e : z.div w = ⟨((0 : Int) : Rat), 0⟩ := by
    rw [hc, Rat.intCast_zero]
    refine Cq.ext' ?_ ?_
    · show (z.re * 0 + z.im * 0) / (0 * 0 + 0 * 0) = 0
      have : z.re * 0 + z.im * 0 = (0 : Rat) := by grind
      rw [this, Rat.div_def]; exact Rat.zero_mul _
    · show (z.im * 0 - z.re * 0) / (0 * 0 + 0 * 0) = 0
      have : z.im * 0 - z.re * 0 = (0 : Rat) := by grind
      rw [this, Rat.div_def]; exact Rat.zero_mul _
   rw [e]; exact hr
 have hc : w ≠ Cq.zero := by simpa using hc
 replace hx := hx.le l1; replace hy := hy.le l1
 have norm : a00 prog n0e #[y.val] V1 fun v V' => ∃ r : NumV, v = r.val ∧ QAt V' r (w * w.conj) :=
  I0c y V1 _ ((j07 hy).mono fun v V2 l2 ⟨r, hv, hr⟩ => ⟨r, hv, (a03 (hy.le l2) hr (by omega) (by omega)).mono fun v V3 _ ⟨q, hv, hq⟩ => ⟨q, hv, q, rfl, hq⟩⟩)
 refine norm.mono fun v V3 l3 ⟨n, hv, hn⟩ => ⟨n, hv, (j07 (hy.le l3)).mono fun v V4 l4 ⟨c, hv, hcj⟩ => ⟨c, hv, ?_⟩⟩
 refine (a03 (hx.le (View.le_trans l3 l4)) hcj (by omega) (by omega)).mono fun v V5 l5 ⟨t, hv, ht⟩ => ⟨t, hv, ?_⟩
 replace hn := hn.le (View.le_trans l4 l5)
 have ns := T01 w w.conj
 have ts := T01 z w.conj
 have n40 : (w * w.conj).sz ≤ 2 ^ 40 := by omega
 have t40 : (z * w.conj).sz ≤ 2 ^ 40 := by omega
 have nA := Cq.wA n40; have nD := Cq.wD n40; have tA := Cq.wA t40; have tB := Cq.wB t40; have tD := Cq.wD t40
 have hD := (w * w.conj).D_pos
 refine (j01 ht.re (I00.ofNat hn.under) (by omega) (by rw [Int.natAbs_natCast]; omega)).mono fun v V6 l6 ⟨r6, hv, h6⟩ => ⟨r6, hv, ?_⟩
 refine (j01 (ht.im.le l6) (I00.ofNat (hn.under.le l6)) (by omega) (by rw [Int.natAbs_natCast]; omega)).mono fun v V7 l7 ⟨r7, hv, h7⟩ => ⟨r7, hv, ?_⟩
 have L := View.le_trans l6 l7
 refine (u04 (ht.under.le L) (hn.re.2.le L) (by omega) (by omega)).mono fun v V8 l8 ⟨r8, hv, h8⟩ => ⟨r8, hv, ?_⟩
 have p1 := K05 (z * w.conj).D (w * w.conj).A.natAbs
 have q1 := j02 tA (b := ((w * w.conj).D : Int)) (by rw [Int.natAbs_natCast]; exact nD)
 have q2 := j02 tB (b := ((w * w.conj).D : Int)) (by rw [Int.natAbs_natCast]; exact nD)
 -- the norm is a number above 0
 have nre : (w * w.conj).re = w.norm := by show w.re * w.re - w.im * -w.im = w.re * w.re + w.im * w.im; grind
 have npos : 0 < w.norm := by
  have h1 : 0 ≤ w.re * w.re := w00 _
  have h2 : 0 ≤ w.im * w.im := w00 _
  refine Rat.not_le.1 fun g => hc ?_
  have g : w.re * w.re + w.im * w.im ≤ 0 := g
  have e1 : w.re * w.re = 0 := by grind
  have e2 : w.im * w.im = 0 := by grind
  exact Cq.ext' (by rcases Rat.mul_eq_zero.1 e1 with h | h <;> exact h) (by rcases Rat.mul_eq_zero.1 e2 with h | h <;> exact h)
 have nrep := (w * w.conj).canon.rep
 have hA : 0 < (w * w.conj).A := by
  refine Int.not_le.1 fun g => ?_
  have e := nrep.re
  rw [nre] at e
  have : ((w * w.conj).A : Rat) / ((w * w.conj).D : Rat) ≤ 0 := by
   rw [Rat.div_def]
   have dp : (0 : Rat) < ((w * w.conj).D : Rat) := by have : 0 < (w * w.conj).D := by omega
                                                      exact_mod_cast this
   have ip : (0 : Rat) ≤ ((w * w.conj).D : Rat)⁻¹ := Rat.le_of_lt (Rat.inv_pos.2 dp)
   have gq : ((w * w.conj).A : Rat) ≤ 0 := by exact_mod_cast g
   have := Rat.mul_le_mul_of_nonneg_right gq ip
   rw [Rat.zero_mul] at this; exact this
  grind
 have R : Rep (z.div w) ((z * w.conj).A * ((w * w.conj).D : Int)) ((z * w.conj).B * ((w * w.conj).D : Int)) ((z * w.conj).D * (w * w.conj).A.natAbs) := by
  have trep := (z * w.conj).canon.rep
  have tre : (z * w.conj).re = z.re * w.re + z.im * w.im := by show z.re * w.re - z.im * -w.im = _; grind
  have tim : (z * w.conj).im = z.im * w.re - z.re * w.im := by show z.re * -w.im + z.im * w.re = _; grind
  have e1 := trep.re; have e2 := trep.im; have e3 := nrep.re
  rw [tre] at e1; rw [tim] at e2; rw [nre] at e3
  have dn : ((z * w.conj).D : Rat) ≠ 0 := W00 (z * w.conj).D_pos
  have dm : ((w * w.conj).D : Rat) ≠ 0 := W00 hD
  have an : (((w * w.conj).A.natAbs : Nat) : Rat) = ((w * w.conj).A : Rat) := by
   have : (((w * w.conj).A.natAbs : Nat) : Int) = (w * w.conj).A := by omega
   exact congrArg (fun x : Int => (x : Rat)) this
  have am : ((w * w.conj).A : Rat) ≠ 0 := by
   intro g
   have : (w * w.conj).A = 0 := by exact_mod_cast g
   omega
  refine ⟨?_, ?_, ?_⟩
  · exact Nat.pos_iff_ne_zero.1 (Nat.mul_pos (by have := (z * w.conj).D_pos; omega) (by omega))
  · show (z.re * w.re + z.im * w.im) / w.norm = _
    rw [e1, e3, C0o (z * w.conj).A, Rat.natCast_mul, an]; grind
  · show (z.im * w.re - z.re * w.im) / w.norm = _
    rw [e2, e3, C0o (z * w.conj).B, Rat.natCast_mul, an]; grind
 refine (e02 (h6.le (View.le_trans l7 l8)) (h7.le l8) h8 R (by omega) (by omega) (by omega)).mono fun v V9 _ ⟨r, hv, hr⟩ => ⟨r, hv, _, _, rfl, hr, fun _ => rfl⟩
def w0q (V : View) (n cap : Nat) (o : List Value) (es : List Eb) : Prop := ∃ l, X05 6 n cap o l ∧ Y02 6 bqC V l es ∧ n = es.length
theorem w0q.le {V V' : View} (hle : V.le V') {n cap : Nat} {o : List Value} {es : List Eb} (h : w0q V n cap o es) : w0q V' n cap o es := by
 obtain ⟨l, h1, h2, h3⟩ := h; exact ⟨l, h1, h2.imp (bqC.le hle), h3⟩
theorem w0q.push {V1 : View} {n cap : Nat} {o : List Value} {es : List Eb} {r : BdV} {e : Eb} {b : Nat} {R : Nat → Nat → List Value → Prop} (h : w0q V1 n cap o es) (hr : BqAt V1 r e) (hl : es.length ≤ 2 ^ 20)
 (hb : V1 b = some #[.int .i64 r.inf, .bool r.x.re.neg, r.x.re.mag.v, .bool r.x.im.neg, r.x.im.mag.v, r.x.under.v]) (hR : ∀ c l3, w0q V1 (n + 1) c l3 (es ++ [e]) → R (n + 1) c l3) :
 ∃ (l1 l2 : List Value), X05 6 n cap o l1 ∧ View.has V1 (some (Addr.mk b 0 none)) l2 ∧ List.length l2 = 1 * 6 ∧ (∀ v ∈ l2, Value.oneCell' v = true) ∧ n + 1 ≤ maxLen ∧ (n + 1) * 96 ≤ 140737488355328 ∧
  ∀ (c1 : Nat) (l3 : List Value), X05 6 (n + 1) c1 l3 (l1 ++ l2) → R (n + 1) c1 l3 := by
 obtain ⟨l, h1, h2, h3⟩ := h
 refine ⟨l, _, h1, N0s (l := [.int .i64 r.inf, .bool r.x.re.neg, r.x.re.mag.v, .bool r.x.im.neg, r.x.im.mag.v, r.x.under.v]) hb, rfl, e0h r, Nat.le_trans (show n + 1 ≤ 2 ^ 20 + 1 by omega) (by decide), by omega, fun c1 l3 hl3 => hR _ _ ⟨_, hl3, ?_, by simp; omega⟩⟩
 exact Y02.append h2 (Y02.one rfl ⟨r, rfl, hr⟩)
def Bk.div (b c : Bk) : Bk := if c.invE = 0 then b.mul c.inv else Bk.nil

theorem p08 {V : View} {x y : WhV} {a b : Int} (hx : I00 V x a) (hy : I00 V y b) (ha : wn a.natAbs ≤ 2 ^ 43) (hb : wn b.natAbs ≤ 2 ^ 43) :
 a00 prog P0h #[x.val, y.val] V fun v _ => v = .int .i64 (cmpZ a b) := by
 have h1 := hx.1
 have h2 := hy.1
 refine X0f x y V _ ⟨fun h => ⟨fun hn => ?_, fun hn => ?_⟩, fun h => ⟨fun hn => ?_, fun hn => ?_⟩⟩
 · rw [h1] at hn h; rw [h2] at h
   have ha := of_decide_eq_true hn
   have hb : ¬ b < 0 := fun c => by rw [decide_eq_true ha, decide_eq_true c] at h; simp at h
   rw [J0a (by omega)]
 · rw [h1] at hn h; rw [h2] at h
   have ha := of_decide_eq_false hn
   have hb : b < 0 := Classical.byContradiction fun c => by rw [decide_eq_false ha, decide_eq_false c] at h; simp at h
   rw [C0e (by omega)]
 · rw [h1] at hn h; rw [h2] at h
   have ha' := of_decide_eq_true hn
   have hb' : b < 0 := Classical.byContradiction fun c => by rw [decide_eq_true ha', decide_eq_false c] at h; simp at h
   refine (W02 hy.2 hx.2 (by omega)).mono fun v V1 _ hv => ⟨_, hv, ?_⟩
   congr 1; unfold cmpZ
   split
   · rw [if_pos (by omega)]
   · split
     · rw [if_neg (by omega), if_pos (by omega)]
     · rw [if_neg (by omega), if_neg (by omega)]
 · rw [h1] at hn h; rw [h2] at h
   have ha' := of_decide_eq_false hn
   have hb' : ¬ b < 0 := fun c => by rw [decide_eq_false ha', decide_eq_true c] at h; simp at h
   refine (W02 hx.2 hy.2 (by omega)).mono fun v V1 _ hv => ⟨_, hv, ?_⟩
   congr 1; unfold cmpZ
   split
   · rw [if_pos (by omega)]
   · split
     · rw [if_neg (by omega), if_pos (by omega)]
     · rw [if_neg (by omega), if_neg (by omega)]
theorem f0g {V : View} {x y : NumV} {z w : Cq} (hx : QAt V x z) (hy : QAt V y w) (hz : z.sz ≤ 2 ^ 40) (hw : w.sz ≤ 2 ^ 40) :
 a00 prog z0m #[x.val, y.val] V fun v _ => v = .bool (decide (z = w)) := by
 have zA := Cq.wA hz; have zB := Cq.wB hz; have zD := Cq.wD hz
 have wA := Cq.wA hw; have wB := Cq.wB hw; have wD := Cq.wD hw
 refine M0k x y V _ ((p08 hx.re hy.re (by omega) (by omega)).mono fun v V1 l1 hv => ⟨_, hv, fun h1 => ?_, fun h1 => ?_⟩)
 · have h1 : z.A = w.A := B0b.1 (by simpa using h1)
   refine (p08 (hx.im.le l1) (hy.im.le l1) (by omega) (by omega)).mono fun v V2 l2 hv => ⟨_, hv, fun h2 => ?_, fun h2 => ?_⟩
   · have h2 : z.B = w.B := B0b.1 (by simpa using h2)
     refine (W02 (hx.under.le (View.le_trans l1 l2)) (hy.under.le (View.le_trans l1 l2)) (by omega)).mono fun v V3 l3 hv => ⟨_, hv, ?_⟩
     congr 1
     by_cases e : z.D = w.D
     · have : z = w := F0o h1 h2 e
       subst this; simp
     · have : z ≠ w := by rintro rfl; exact e rfl
       simp only [this, decide_false]
       rw [if_neg e]
       by_cases h : z.D < w.D
       · rw [if_pos h]; rfl
       · rw [if_neg h]; rfl
   · have h2 : ¬ z.B = w.B := fun e => by rw [B0b.2 e] at h2; simp at h2
     have : z ≠ w := by rintro rfl; exact h2 rfl
     simp [this]
 · have h1 : ¬ z.A = w.A := fun e => by rw [B0b.2 e] at h1; simp at h1
   have : z ≠ w := by rintro rfl; exact h1 rfl
   simp [this]

theorem k05 {V : View} {s : Sl} {a : Nat} (hs : e00 V s a) (ha : bl a ≤ 2 ^ 40) :
 a00 prog u0f #[s.v] V fun v V' => ∃ (r : Sl) (k : Nat), v = r.v ∧ e00 V' r k ∧ I07 k a := by
 have wa : wn a ≤ 2 ^ 40 := J04 (by omega)
 have hl := hs.len_zero
 refine t0e s V _ (fun _ x V' => ∃ k, e00 V' x.t3 k ∧ k ≠ 0 ∧ a < (k + 1) * (k + 1) ∧ wn k ≤ 2 ^ 41) (fun _ x V' => M0c V' x.t3) ⟨fun hc => ?_, fun hc b1 V1 l1 _ hb => ?_⟩
 · have hs0 : (s.len : Int) = 0 := by simpa using hc
   have hc : a = 0 := hl.1 (by omega)
   exact ⟨_, 0, rfl, e00.zero V, by rw [hc]; exact ⟨Nat.le_refl _, by omega⟩⟩
 have a0 : a ≠ 0 := fun e => by have := hl.2 e; rw [this] at hc; exact absurd hc (by decide)
 refine (m01 (hs.le l1) (by omega)).mono fun v V2 l2 hv => ⟨_, hv, ?_⟩
 obtain ⟨m, hm⟩ : ∃ m, m = (bl a + 1) / 2 := ⟨_, rfl⟩
 have w : i64.wrap (Int.tdiv (i64.wrap (((bl a : Nat) : Int) + 1)) 2) = (m : Int) := by
  have e : ((bl a : Nat) : Int) + 1 = ((bl a + 1 : Nat) : Int) := by omega
  rw [e, i64w (n := ((bl a + 1 : Nat) : Int)) (by omega) (by omega)]
  have e3 : Int.tdiv ((bl a + 1 : Nat) : Int) 2 = (((bl a + 1) / 2 : Nat) : Int) := (Int.ofNat_tdiv (bl a + 1) 2).symm
  rw [e3, ← hm, i64w (by omega) (by omega)]
 rw [w]
 refine (z01 (e00.lit (n := 1) (l2 _ _ hb) (by omega) (by omega)) (Nat.le_trans a0d (by decide)) (by omega)).mono fun v V3 l3 ⟨r2, hv, h2⟩ => ⟨r2, hv, ?_⟩
 rw [Nat.one_mul] at h2
 have pm : 0 < 2 ^ m := Nat.pow_pos (by omega)
 refine ⟨⟨2 ^ m, h2, by omega, ?_, ?_⟩, ?_⟩
 · have h1 := I0a a
   have h3 : 2 ^ bl a ≤ 2 ^ (m + m) := Nat.pow_le_pow_right (by omega) (by omega)
   rw [Nat.pow_add] at h3
   have : (2 ^ m + 1) * (2 ^ m + 1) = 2 ^ m * 2 ^ m + (2 * 2 ^ m + 1) := by grind
   omega
 · have := Z01 m
   exact J04 (by omega)
 rintro ⟨t⟩ V4 l4 ⟨k, hk, k0, hk2, wk⟩
 dsimp only at hk ⊢
 have L4 := View.le_trans l1 (View.le_trans l2 (View.le_trans l3 l4))
 refine (Q01 (hs.le L4) hk (by omega) k0).mono fun v V5 l5 ⟨q, r, hv, hq, _⟩ => ⟨q, r, hv, ?_⟩
 have wq : wn (a / k) ≤ wn a := X04 (Nat.div_le_self a k)
 refine (a06 (hk.le l5) hq (by omega) (by omega)).mono fun v V6 l6 ⟨t6, hv, h6⟩ => ⟨t6, hv, ?_⟩
 have w6 := N0k k (a / k)
 refine (x03 (n := 1) h6 (by omega) (by omega)).mono fun v V7 l7 ⟨t7, hv, h7⟩ => ⟨t7, hv, ?_⟩
 have e2 : (k + a / k) / 2 ^ 1 = (k + a / k) / 2 := by rfl
 rw [e2] at h7
 have w7 : wn ((k + a / k) / 2) ≤ wn (k + a / k) := X04 (Nat.div_le_self _ _)
 have L7 := View.le_trans l5 (View.le_trans l6 l7)
 have hk7 := hk.le L7
 refine (W02 h7 hk7 (by omega)).mono fun v V8 l8 hv => ⟨_, hv, fun hc => ?_, fun hc => ?_⟩
 · have hc : ¬ (k + a / k) / 2 < k := by
     intro c; rw [if_pos c] at hc; exact absurd hc (by decide)
   refine ⟨_, k, rfl, hk7.le l8, ⟨?_, hk2⟩⟩
   have : k ≤ a / k := by omega
   exact (Nat.le_div_iff_mul_le (by omega)).1 this
 · have hc : (k + a / k) / 2 < k := by
     refine Nat.not_le.1 fun c => ?_
     rw [if_neg (by omega)] at hc
     split at hc <;> exact absurd hc (by decide)
   refine ⟨⟨_, h7.le l8, ?_, z0w (q := a / k) (x := k) ?_ (by omega), Nat.le_trans (X04 (Nat.le_of_lt hc)) wk⟩, ?_⟩
   · intro e
     by_cases c1 : k = 1
     · rw [c1, Nat.div_one] at e; omega
     · obtain ⟨q, hq'⟩ : ∃ q, q = a / k := ⟨_, rfl⟩
       rw [← hq'] at e; omega
   · have := Nat.div_add_mod a k; have := Nat.mod_lt a (show 0 < k by omega)
     rw [Nat.mul_add]; omega
   · rw [L05 (h7.le l8), L05 hk]; exact hc
theorem e0f {k a : Nat} (h : I07 k a) : bl k ≤ bl a := C06 h.le
theorem re_A {q : Rat} (h : 0 ≤ q) : 0 ≤ (⟨q, 0⟩ : Cq).A := by
 have r := (⟨q, 0⟩ : Cq).canon.rep
 have e : q = ((⟨q, 0⟩ : Cq).A : Rat) / ((⟨q, 0⟩ : Cq).D : Rat) := r.re
 have m := Rat.div_mul_cancel (a := ((⟨q, 0⟩ : Cq).A : Rat)) (W00 r.pos)
 rw [← e] at m
 have : (0 : Rat) ≤ ((⟨q, 0⟩ : Cq).A : Rat) := by
  rw [← m]; exact Rat.mul_nonneg h (by exact_mod_cast Nat.zero_le _)
 exact_mod_cast this
theorem l07 {V : View} {x : NumV} {q : Rat} (hx : QAt V x ⟨q, 0⟩) (h0 : 0 ≤ q) (hz : (⟨q, 0⟩ : Cq).sz ≤ 2 ^ 36) :
 a00 prog x0m #[x.val] V fun v V' => ∃ (r : NumV) (b : Bool) (z : Rat), v = .tuple #[r.val, .bool b] ∧ QAt V' r ⟨z, 0⟩ ∧ 0 ≤ z ∧ (b = true → z * z = q) ∧ (∀ p, 0 ≤ p → p * p = q → b = true ∧ z = p) := by
 have zA := Cq.szA (⟨q, 0⟩ : Cq); have zD := Cq.szD (⟨q, 0⟩ : Cq)
 obtain ⟨A, hA⟩ : ∃ A : Nat, (⟨q, 0⟩ : Cq).A = A := ⟨(⟨q, 0⟩ : Cq).A.toNat, by have := re_A h0; omega⟩
 have dne := (⟨q, 0⟩ : Cq).D_pos
 obtain ⟨D, hD⟩ : ∃ D : Nat, (⟨q, 0⟩ : Cq).D = D := ⟨_, rfl⟩
 have hm := hx.re.2
 have hu := hx.under
 rw [hA, Int.natAbs_natCast] at hm
 rw [hA, Int.natAbs_natCast] at zA
 rw [hD] at hu zD dne
 refine k0k x V _ ((k05 hm (by omega)).mono fun v V1 l1 ⟨r1, k, hv, h1, hk⟩ => ⟨r1, hv, ?_⟩)
 refine (k05 (hu.le l1) (by omega)).mono fun v V2 l2 ⟨r2, j, hv, h2, hj⟩ => ⟨r2, hv, ?_⟩
 have kb := e0f hk; have jb := e0f hj
 have j0 : j ≠ 0 := fun e => by have := hj.2; rw [e] at this; omega
 obtain ⟨z, hz'⟩ : ∃ z : Rat, z = (k : Rat) / (j : Rat) := ⟨_, rfl⟩
 have R : Rep ⟨z, 0⟩ (k : Int) 0 j := ⟨j0, hz', e09 _⟩
 have hi : I00 V2 (WhV.mk false r1) (k : Int) := ⟨by simp, by rw [Int.natAbs_natCast]; exact h1.le l2⟩
 have zs : (⟨z, 0⟩ : Cq).sz ≤ 2 ^ 36 := R.sz (by rw [Int.natAbs_natCast]; omega) (by rw [Int.natAbs_zero, Y05]; omega) (by omega)
 have z0 : 0 ≤ z := by
  rw [hz', Rat.div_def]
  refine Rat.mul_nonneg (by exact_mod_cast Nat.zero_le _) (Rat.le_of_lt (Rat.inv_pos.2 (by exact_mod_cast (by omega : 0 < j))))
 refine (e02 hi (I00.zero V2) h2 R (by rw [Int.natAbs_natCast]; exact J04 (by omega)) (by rw [Int.natAbs_zero, P03]; omega) (J04 (by omega))).mono fun v V3 l3 ⟨r3, hv, h3⟩ => ⟨r3, hv, ?_⟩
 refine (a03 h3 h3 (by omega) (by omega)).mono fun v V4 l4 ⟨r4, hv, h4⟩ => ⟨r4, hv, ?_⟩
 have ms := T01 (⟨z, 0⟩ : Cq) ⟨z, 0⟩
 have L4 := View.le_trans l1 (View.le_trans l2 (View.le_trans l3 l4))
 refine (f0g h4 (hx.le L4) (by omega) (by omega)).mono fun v V5 l5 hv => ⟨_, hv, ?_⟩
 refine ⟨r3, _, z, rfl, h3.le (View.le_trans l4 l5), z0, fun hb => ?_, fun p p0 hp => ?_⟩
 · have hb := of_decide_eq_true hb
   rw [y04] at hb
   exact congrArg Cq.re hb
 · obtain ⟨e1, e2⟩ := B0u (p := p)
   have pr := (⟨p, 0⟩ : Cq).canon.rep
   rw [hp, hA] at e1
   rw [hp, hD] at e2
   obtain ⟨P, hP⟩ : ∃ P : Nat, (⟨p, 0⟩ : Cq).A = P := ⟨(⟨p, 0⟩ : Cq).A.toNat, by have := re_A p0; omega⟩
   rw [hP] at e1
   have e1 : A = P * P := by exact_mod_cast e1
   have kk : k = P := hk.unique (by rw [e1]; exact C0l P)
   have jj : j = (⟨p, 0⟩ : Cq).D := hj.unique (by rw [e2]; exact C0l _)
   have ez : z = p := by
    have : p = ((⟨p, 0⟩ : Cq).A : Rat) / ((⟨p, 0⟩ : Cq).D : Rat) := pr.re
    rw [hz', this, kk, jj, hP]; rfl
   refine ⟨decide_eq_true ?_, ez⟩
   rw [y04, ez, hp]
theorem g0g {V : View} {y : NumV} {w : Cq} (hy : QAt V y w) (hw : w.sz ≤ 2 ^ 38) : a00 prog n0e #[y.val] V fun v V' => ∃ r : NumV, v = r.val ∧ QAt V' r (w * w.conj) := by
 have cz := k0h w
 exact I0c y V _ ((j07 hy).mono fun v V2 l2 ⟨r, hv, hr⟩ => ⟨r, hv, (a03 (hy.le l2) hr (by omega) (by omega)).mono fun v V3 _ ⟨q, hv, hq⟩ => ⟨q, hv, q, rfl, hq⟩⟩)
theorem D0o : Rep (⟨1 / 2, 0⟩ : Cq) 1 0 2 := ⟨by omega, by show (1 : Rat) / 2 = _; decide +kernel, e09 _⟩
theorem N0u : (⟨0, 1⟩ : Cq).A = 0 ∧ (⟨0, 1⟩ : Cq).B = 1 ∧ (⟨0, 1⟩ : Cq).D = 1 :=
 y0b.eqs ⟨⟨by omega, by show (0 : Rat) = _; decide +kernel, by show (1 : Rat) = _; decide +kernel⟩, by decide⟩
theorem U0s (q : Rat) : (⟨q, 0⟩ : Cq).conj = ⟨q, 0⟩ := Cq.ext' rfl (by show -(0 : Rat) = 0; grind)
theorem i0u : (⟨1 / 2, 0⟩ : Cq).sz ≤ 2 := D0o.sz (by decide) (by decide) (by decide)
theorem w0a {V : View} {x : NumV} {q : Rat} (hx : QAt V x ⟨q, 0⟩) (h0 : 0 ≤ q) (hz : (⟨q, 0⟩ : Cq).sz ≤ 2 ^ 32) :
 a00 prog q0m #[x.val] V fun v V' => ∃ (r : NumV) (b : Bool), v = .tuple #[r.val, .bool b] ∧ (b = true → ∃ z : Rat, QAt V' r ⟨z, 0⟩ ∧ 0 ≤ z ∧ z * z = q) ∧ (b = false → ∀ p, 0 ≤ p → p * p ≠ q) := by
 have whole : ∀ {V : View}, a00 prog A08 #[.int .i64 0] V fun v V' => ∃ r : NumV, v = r.val ∧ QAt V' r ⟨((0 : Int) : Rat), 0⟩ := Q03 (by omega) (by omega)
 refine l0k x V _ ((u0a hx).mono fun v V1 l1 hv => ⟨_, hv, fun hc => ?_, fun hc => ?_⟩)
 · have hc : q = 0 := congrArg Cq.re (of_decide_eq_true hc)
   refine ⟨x, true, rfl, fun _ => ⟨q, hx.le l1, h0, by rw [hc]; exact Rat.zero_mul _⟩, fun e => absurd e (by decide)⟩
 replace hx := hx.le l1
 have m1 := T01 (⟨q, 0⟩ : Cq) ⟨q, 0⟩
 refine (g0g hx (by omega)).mono fun v V2 l2 ⟨r2, hv, h2⟩ => ⟨r2, hv, ?_⟩
 rw [U0s, y04] at h2
 rw [y04] at m1
 refine (l07 h2 (Rat.mul_nonneg h0 h0) (by omega)).mono fun v V3 l3 ⟨r3, b3, z3, hv, h3, _, _, k3⟩ => ⟨r3, b3, hv, ?_⟩
 obtain ⟨e1, e2⟩ := k3 q h0 rfl
 subst e1; subst e2
 refine ⟨fun hc => absurd hc (by decide), fun _ => ?_⟩
 refine (n03 (n := 1) (by omega) (by omega)).mono fun v V5 l5 ⟨r6, hv, h6⟩ => ⟨r6, hv, fun b1 V6 l6 _ hb1 => ?_⟩
 have L6 := View.le_trans l2 (View.le_trans l3 (View.le_trans l5 l6))
 refine (e02 (h6.le l6) (I00.zero V6) (e00.lit (n := 2) hb1 (by omega) (by omega)) D0o a0d (by rw [Int.natAbs_zero, P03]; omega) (wn64 (by omega))).mono fun v V7 l7 ⟨r7, hv, h7⟩ => ⟨r7, hv, ?_⟩
 refine (f0d (hx.le (View.le_trans L6 l7)) (by omega)).mono fun v V8 l8 ⟨r8, hv, h8⟩ => ⟨r8, hv, ?_⟩
 have a1 := S05 (⟨z3, 0⟩ : Cq) ⟨z3, 0⟩
 have hs := i0u
 have a2 := T01 ((⟨z3, 0⟩ : Cq) + ⟨z3, 0⟩) ⟨1 / 2, 0⟩
 refine (a04 h8 (h3.le (View.le_trans l5 (View.le_trans l6 (View.le_trans l7 l8)))) (by show (⟨z3, 0⟩ : Cq).sz ≤ _; omega) (by omega)).mono fun v V9 l9 ⟨r9, hv, h9⟩ => ⟨r9, hv, ?_⟩
 have h9 : QAt V9 r9 ((⟨z3, 0⟩ : Cq) + ⟨z3, 0⟩) := h9
 refine (a03 h9 (h7.le (View.le_trans l8 l9)) (by omega) (by omega)).mono fun v V10 l10 ⟨r10, hv, h10⟩ => ⟨r10, hv, ?_⟩
 have e10 : ((⟨z3, 0⟩ : Cq) + ⟨z3, 0⟩) * ⟨1 / 2, 0⟩ = ⟨z3, 0⟩ := by rw [I09, y04]; congr 1; grind
 rw [e10] at h10
 refine (l07 h10 h0 (by omega)).mono fun v V11 l11 ⟨r11, b, z, hv, h11, z0, k11, k12⟩ => ⟨r11, b, hv, fun hc => ?_, fun hc => ?_⟩
 · refine whole.mono fun v V12 _ ⟨r, hv, hr⟩ => ⟨r, hv, r, false, rfl, fun e => absurd e (by decide), fun _ p p0 hp => ?_⟩
   rw [(k12 p p0 hp).1] at hc; exact absurd hc (by decide)
 have hb : b = true := by cases b; exact absurd hc (by decide); rfl
 subst hb
 have L11 := View.le_trans L6 (View.le_trans l7 (View.le_trans l8 (View.le_trans l9 (View.le_trans l10 l11))))
 have M11 := View.le_trans l5 (View.le_trans l6 (View.le_trans l7 (View.le_trans l8 (View.le_trans l9 (View.le_trans l10 l11)))))
 refine (f0d (hx.le L11) (by omega)).mono fun v V13 l13 ⟨r14, hv, h14⟩ => ⟨r14, hv, ?_⟩
 have h14 : QAt V13 r14 ⟨z3, 0⟩ := h14
 refine (Y0i (h3.le (View.le_trans M11 l13)) h14 (by omega) (by omega)).mono fun v V14 l14 ⟨r15, hv, h15⟩ => ⟨r15, hv, ?_⟩
 have e15 : (⟨z3, 0⟩ : Cq) - ⟨z3, 0⟩ = Cq.zero := Cq.ext' (by rw [j0f]; show z3 - z3 = 0; grind) (by rw [k0f]; show (0 : Rat) - 0 = 0; grind)
 rw [e15] at h15
 have zz := b04
 refine (a03 h15 (h7.le (View.le_trans l8 (View.le_trans l9 (View.le_trans l10 (View.le_trans l11 (View.le_trans l13 l14)))))) (by omega) (by omega)).mono fun v V15 l15 ⟨r16, hv, h16⟩ => ⟨r16, hv, ?_⟩
 have e16 : Cq.zero * ⟨1 / 2, 0⟩ = Cq.zero := Cq.ext' (by rw [J06]; show (0 : Rat) * _ - 0 * _ = 0; grind) (by rw [K06]; show (0 : Rat) * _ + 0 * _ = 0; grind)
 rw [e16] at h16
 refine (l07 (q := 0) h16 (by grind) (Nat.le_trans zz (by omega))).mono fun v V16 l16 ⟨r17, b17, z17, hv, h17, _, _, k17⟩ => ⟨r17, b17, hv, ?_⟩
 obtain ⟨e1, e2⟩ := k17 0 (by grind) (Rat.zero_mul _)
 subst e1; subst e2
 refine ⟨fun hc => absurd hc (by decide), fun _ => ⟨fun hn => ?_, fun _ => ?_⟩⟩
 · have := hx.re; have hi := hx.im.1; rw [re_B] at hi; rw [hi] at hn; exact absurd hn (by decide)
 refine (n03 (n := 1) (by omega) (by omega)).mono fun v V23 l23 ⟨r24, hv, h24⟩ => ⟨r24, hv, fun b3 V24 l24 _ hb3 => ?_⟩
 have hi : QAt V24 (NumV.mk (WhV.mk false (Sl.mk none 0 0)) r24 (Sl.mk (some (Addr.mk b3 0 none)) 1 1)) ⟨0, 1⟩ := by
  obtain ⟨e1, e2, e3⟩ := N0u
  exact ⟨by rw [e1]; exact I00.zero _, by rw [e2]; exact h24.le l24, by rw [e3]; exact e00.lit (n := 1) hb3 (by omega) (by omega)⟩
 have hs1 : (⟨0, 1⟩ : Cq).sz ≤ 4 := by obtain ⟨e1, e2, e3⟩ := N0u; unfold Cq.sz; rw [e1, e2, e3]; decide
 have h17 : QAt V16 r17 Cq.zero := h17
 refine (a03 (h17.le (View.le_trans l23 l24)) hi (by omega) (by omega)).mono fun v V25 l25 ⟨r25, hv, h25⟩ => ⟨r25, hv, ?_⟩
 have e25 : Cq.zero * ⟨0, 1⟩ = Cq.zero := Cq.ext' (by rw [J06]; show (0 : Rat) * _ - 0 * _ = 0; grind) (by rw [K06]; show (0 : Rat) * _ + 0 * _ = 0; grind)
 rw [e25] at h25
 have N := View.le_trans l13 (View.le_trans l14 (View.le_trans l15 (View.le_trans l16 (View.le_trans l23 (View.le_trans l24 l25)))))
 have zs := g0n (k11 rfl) hz
 refine (a04 (h11.le N) h25 (by omega) (by omega)).mono fun v V26 l26 ⟨r26, hv, h26⟩ => ⟨r26, hv, r26, true, rfl, fun _ => ⟨z, ?_, z0, k11 rfl⟩, fun e => absurd e (by decide)⟩
 have e26 : (⟨z, 0⟩ : Cq) + Cq.zero = ⟨z, 0⟩ := Cq.ext' (by rw [g09]; show z + 0 = z; grind) (by rw [i09]; show (0 : Rat) + 0 = 0; grind)
 rw [e26] at h26; exact h26
def m07 (k : Nat) : Rat := 1 / ((2 ^ k : Nat) : Rat)
theorem f0f (k : Nat) (a : Int) : Rep ⟨(a : Rat) * m07 k, 0⟩ a 0 (2 ^ k) := ⟨X0g k, by show (a : Rat) * (1 / _) = _; rw [Rat.div_def, Rat.div_def, Rat.one_mul], e09 _⟩
theorem Q0b (k : Nat) : m07 k * ((2 ^ k : Nat) : Rat) = 1 := Rat.div_mul_cancel (W00 (X0g k))
theorem S0b (k : Nat) : 0 < m07 k := by
 unfold m07; rw [Rat.div_def, Rat.one_mul]; exact Rat.inv_pos.2 (by exact_mod_cast Nat.pow_pos (by omega))
theorem y0l (k : Nat) : m07 k ≤ 1 := by
 have h : (1 : Rat) ≤ ((2 ^ k : Nat) : Rat) := by exact_mod_cast Nat.pow_pos (n := k) (show 0 < 2 by omega)
 have := Rat.mul_le_mul_of_nonneg_left h (Rat.le_of_lt (S0b k))
 rw [Q0b, Rat.mul_one] at this; exact this
theorem W0s {V : View} {k : Nat} (hk : k ≤ 2 ^ 30) (Q : Sl → View → Prop) (h : ∀ s V', V.le V' → e00 V' s (2 ^ k) → Q s V') :
 a00 prog D0c #[.int .u64 1] V fun v V1 => ∃ r3 : Sl, v = r3.v ∧ a00 prog Q07 #[r3.v, .int .i64 (k : Int)] V1 fun v V2 => ∃ r4 : Sl, v = r4.v ∧ Q r4 V2 := by
 refine (m03 (n := 1) (by omega) (by omega)).mono fun v V1 l1 ⟨s, hv, hs⟩ => ⟨s, hv, ?_⟩
 refine (z01 (n := k) hs (Nat.le_trans a0d (by decide)) (by omega)).mono fun v V2 l2 ⟨t, hv, ht⟩ => ⟨t, hv, h t V2 (View.le_trans l1 l2) ?_⟩
 have : (1 : Int).toNat * 2 ^ k = 2 ^ k := by rw [show (1 : Int).toNat = 1 from rfl, Nat.one_mul]
 rw [← this]; exact ht
theorem n07 {V : View} {k : Nat} (hk : k ≤ 2 ^ 30) : a00 prog l0e #[.int .i64 (k : Int)] V fun v V' => ∃ r : NumV, v = r.val ∧ QAt V' r ⟨m07 k, 0⟩ := by
 refine m0k (k : Int) V _ ((n03 (n := 1) (by omega) (by omega)).mono fun v V1 l1 ⟨r1, hv, h1⟩ => ⟨r1, hv, (n03 (n := 0) (by omega) (by omega)).mono fun v V2 l2 ⟨r2, hv, h2⟩ => ⟨r2, hv, ?_⟩⟩)
 refine W0s hk (fun r4 V4 => a00 prog P07 #[r1.val, r2.val, r4.v] V4 fun v V5 => ∃ r5 : NumV, v = r5.val ∧ ∃ r : NumV, r5.val = r.val ∧ QAt V5 r ⟨m07 k, 0⟩) fun s V4 l4 hs => ?_
 have R := f0f k 1
 rw [show ((1 : Int) : Rat) * m07 k = m07 k from Rat.one_mul _] at R
 have := Z01 k
 exact (e02 (h1.le (View.le_trans l2 l4)) (h2.le l4) hs R a0d (by rw [Int.natAbs_zero, P03]; omega) (J04 (by omega))).mono fun v V5 _ ⟨r5, hv, h5⟩ => ⟨r5, hv, r5, rfl, h5⟩
theorem S03 {V : View} {x : NumV} {q : Rat} {k : Nat} (hx : QAt V x ⟨q, 0⟩) (h0 : 0 ≤ q) {S : Nat} (hz : (⟨q, 0⟩ : Cq).sz ≤ S) (hS : S ≤ 2 ^ 30) (hk : k ≤ 2 ^ 30) :
 a00 prog C0c #[x.val, .int .i64 (k : Int)] V fun v V' => ∃ (r : NumV) (z : Rat), v = r.val ∧ QAt V' r ⟨z, 0⟩ ∧ (⟨z, 0⟩ : Cq).sz ≤ S + 2 * k + 2 ∧ 0 ≤ z ∧ z * z ≤ q ∧ q < (z + m07 k) * (z + m07 k) := by
 have zA := Cq.szA (⟨q, 0⟩ : Cq); have zD := Cq.szD (⟨q, 0⟩ : Cq)
 have cr := (⟨q, 0⟩ : Cq).canon.rep.re
 obtain ⟨A, hA⟩ : ∃ A : Nat, (⟨q, 0⟩ : Cq).A = A := ⟨(⟨q, 0⟩ : Cq).A.toNat, by have := re_A h0; omega⟩
 have dne := (⟨q, 0⟩ : Cq).D_pos
 obtain ⟨D, hD⟩ : ∃ D : Nat, (⟨q, 0⟩ : Cq).D = D := ⟨_, rfl⟩
 have hm := hx.re.2
 have hu := hx.under
 rw [hA, Int.natAbs_natCast] at hm zA
 rw [hD] at hu zD dne
 rw [hA, hD] at cr
 have cr : q = (A : Rat) / (D : Rat) := cr
 have w : i64.wrap (2 * (k : Int)) = ((2 * k : Nat) : Int) := by rw [i64w (by omega) (by omega)]; omega
 refine Y0h x (k : Int) V _ ?_
 rw [w]
 refine (z01 (n := 2 * k) hm (J04 (by omega)) (by omega)).mono fun v V1 l1 ⟨r1, hv, h1⟩ => ⟨r1, hv, ?_⟩
 have b1 := L08 A (2 ^ (2 * k))
 have b2 := Z01 (2 * k)
 refine (Q01 h1 (hu.le l1) (J04 (by omega)) dne).mono fun v V2 l2 ⟨q2, r2, hv, h2, _⟩ => ⟨q2, r2, hv, ?_⟩
 have b3 := C06 (Nat.div_le_self (A * 2 ^ (2 * k)) D)
 refine (k05 h2 (by omega)).mono fun v V3 l3 ⟨r3, m, hv, h3, hm⟩ => ⟨r3, hv, ?_⟩
 have mb := e0f hm
 refine (n03 (n := 0) (by omega) (by omega)).mono fun v V4 l4 ⟨r5, hv, h5⟩ => ⟨r5, hv, ?_⟩
 obtain ⟨z, hz'⟩ : ∃ z : Rat, z = ((m : Int) : Rat) * m07 k := ⟨_, rfl⟩
 have R := f0f k (m : Int)
 rw [← hz'] at R
 have zs : (⟨z, 0⟩ : Cq).sz ≤ S + 2 * k + 2 := R.sz (by rw [Int.natAbs_natCast]; omega) (by rw [Int.natAbs_zero, Y05]; omega) (by have := Z01 k; omega)
 refine W0s hk (fun r7 V6 => a00 prog P07 #[(WhV.mk false r3).val, r5.val, r7.v] V6 fun v V5 => ∃ r8 : NumV, v = r8.val ∧ ∃ (r : NumV) (z : Rat), r8.val = r.val ∧ QAt V5 r ⟨z, 0⟩ ∧ (⟨z, 0⟩ : Cq).sz ≤ S + 2 * k + 2 ∧ 0 ≤ z ∧ z * z ≤ q ∧ q < (z + m07 k) * (z + m07 k)) fun s V6 l6 hs => ?_
 have hi : I00 V6 (WhV.mk false r3) (m : Int) := ⟨by simp, by rw [Int.natAbs_natCast]; exact h3.le (View.le_trans l4 l6)⟩
 refine (e02 hi (h5.le l6) hs R (by rw [Int.natAbs_natCast]; exact J04 (by omega)) (by rw [Int.natAbs_zero, P03]; omega) (J04 (by have := Z01 k; omega))).mono fun v V7 _ ⟨r8, hv, h8⟩ => ⟨r8, hv, r8, z, rfl, h8, zs, ?_⟩
 -- the numbers
 obtain ⟨u, hu'⟩ : ∃ u, u = m07 k := ⟨_, rfl⟩
 obtain ⟨P, hP⟩ : ∃ P : Nat, P = 2 ^ k := ⟨_, rfl⟩
 have up : 0 < u := hu' ▸ S0b k
 have uP : u * (P : Rat) = 1 := by rw [hu', hP]; exact Q0b k
 have e2 : 2 ^ (2 * k) = P * P := by rw [hP, ← Nat.pow_add]; congr 1; omega
 rw [e2] at hm
 rw [← hu'] at hz' ⊢
 have Dp : (0 : Rat) < (D : Rat) := by exact_mod_cast (by omega : 0 < D)
 have qD : q * (D : Rat) = (A : Rat) := by rw [cr]; exact Rat.div_mul_cancel (W00 dne)
 have mz : ((m : Int) : Rat) = (m : Rat) := rfl
 have zP : z * (P : Rat) = (m : Rat) := by rw [hz', mz]; grind
 have Pp : (0 : Rat) < (P : Rat) * (P : Rat) := by
  have : (0 : Rat) < (P : Rat) := by rw [hP]; exact_mod_cast Nat.pow_pos (by omega)
  exact Rat.mul_pos this this
 have pos := Rat.mul_pos Pp Dp
 refine ⟨?_, ?_, ?_⟩
 · rw [hz']; exact Rat.mul_nonneg (by rw [mz]; exact_mod_cast Nat.zero_le m) (Rat.le_of_lt up)
 · have h := (Nat.le_div_iff_mul_le (by omega)).1 hm.1
   have h : (m : Rat) * (m : Rat) * (D : Rat) ≤ (A : Rat) * ((P : Rat) * (P : Rat)) := by exact_mod_cast h
   refine Rat.not_lt.1 fun g => ?_
   have g := Rat.mul_lt_mul_of_pos_right g pos
   rw [← zP, ← qD] at h
   grind
 · have h := (Nat.div_lt_iff_lt_mul (by omega)).1 hm.2
   have h : (A : Rat) * ((P : Rat) * (P : Rat)) < ((m : Rat) + 1) * ((m : Rat) + 1) * (D : Rat) := by exact_mod_cast h
   refine Rat.not_le.1 fun g => ?_
   have g := Rat.mul_le_mul_of_nonneg_right g (Rat.le_of_lt pos)
   have e1 : (m : Rat) + 1 = (z + u) * (P : Rat) := by grind
   rw [e1, ← qD] at h
   grind

theorem J0v {V : View} {b k : Nat} {l : List Value} (h : V b = some l.toArray) : V.has (Option.map (fun q => Addr.add q k) (some (Addr.mk b 0 none))) (l.drop k) := by
 intro j v hj
 have e : (Option.map (fun q => Addr.add q k) (some (Addr.mk b 0 none))).map (·.add j) = (some (Addr.mk b 0 none)).map (·.add (k + j)) := by
  show some (((Addr.mk b 0 none).add k).add j) = some ((Addr.mk b 0 none).add (k + j))
  rw [t0j]
 rw [e, m0c h]
 rw [List.getElem?_drop] at hj
 simpa using hj
theorem s0n {V : View} {k : Int} {p1 p2 : Option Addr} {x n : NumV} {X N : Rat} (hk : inK k) (hf : finW (k00 k)) (h1 : V.has (Option.map (fun q => Addr.add q 1) p1) x.val.cells.toList) (s1 : p1.isSome = true) (h2 : V.has p2 n.val.cells.toList) (s2 : p2.isSome = true)
 (hx : S01 V x ⟨X, 0⟩) (hn : S01 V n ⟨N, 0⟩) (zx : (⟨X, 0⟩ : Cq).sz ≤ 2 ^ 20) (zn : (⟨N, 0⟩ : Cq).sz ≤ 2 ^ 30) :
 a00 prog E05 #[.float .f64 (k00 k), .pointer p1, .pointer p2] V fun v _ => v = .int .i64 (rtC X N (fkq k)) := by
 have zq := Y0e hk
 obtain ⟨q, hq⟩ : ∃ q, q = fkq k := ⟨_, rfl⟩
 rw [← hq] at zq ⊢
 have z1 := T01 ⟨q, 0⟩ ⟨q, 0⟩
 have two : (⟨((2 : Int) : Rat), 0⟩ : Cq).sz ≤ 2 := (Rep.ofInt 2).sz (by decide) (by decide) (by decide)
 refine u0i (k00 k) p1 p2 V _ ((Z0e hf).mono fun v V1 l1 ⟨r1, hv, hr1⟩ => ⟨r1, hv, s1, x, C04 l1 h1, by rw [Option.isSome_map]; exact s1, ?_⟩)
 rw [keyK hk, ← hq] at hr1
 refine (Z02 hr1 hr1 (by omega) (by omega)).mono fun v V2 l2 ⟨r2, hv, hr2⟩ => ⟨r2, hv, (X0c (by omega) (by omega)).mono fun v V3 l3 ⟨r3, hv, hr3⟩ => ⟨r3, hv, ?_⟩⟩
 have z2 := T01 ((⟨q, 0⟩ : Cq) * ⟨q, 0⟩) ⟨((2 : Int) : Rat), 0⟩
 refine (Z02 (hr2.le l3) hr3 (by omega) (by omega)).mono fun v V4 l4 ⟨r4, hv, hr4⟩ => ⟨r4, hv, ?_⟩
 have L4 := View.le_trans l1 (View.le_trans l2 (View.le_trans l3 l4))
 have z3 := z0l ((⟨q, 0⟩ : Cq) * ⟨q, 0⟩ * ⟨((2 : Int) : Rat), 0⟩) ⟨X, 0⟩
 refine (f0l hr4 (hx.le L4) (by omega) (by omega)).mono fun v V5 l5 ⟨r5, hv, hr5⟩ => ⟨r5, hv, ?_⟩
 have e5 : (⟨q, 0⟩ : Cq) * ⟨q, 0⟩ * ⟨((2 : Int) : Rat), 0⟩ - ⟨X, 0⟩ = ⟨rtD X q, 0⟩ := by
  rw [y04, y04, o0o]; rfl
 rw [e5] at hr5 z3
 refine (Z08 hr5 (S01.zero V5) (by omega) (Nat.le_trans b04 (by omega))).mono fun v V6 l6 hv => ⟨_, hv, ?_⟩
 have e6 : (⟨rtD X q, 0⟩ : Cq).cmp Cq.zero = cmpR (rtD X q) 0 := o0n _ _
 rw [e6]
 have cl : cmpR (rtD X q) 0 < 0 ↔ rtD X q < 0 := by
  unfold cmpR
  by_cases c : rtD X q < 0
  · rw [if_pos c]; exact ⟨fun _ => c, fun _ => by decide⟩
  · rw [if_neg c]; constructor
    · intro h; split at h <;> exact absurd h (by decide)
    · intro h; exact absurd h c
 refine ⟨fun hc => ?_, fun hc => ?_⟩
 · have hc : rtD X q < 0 := by rw [decide_eq_true_iff] at hc; exact cl.1 hc
   unfold rtC; rw [if_pos hc]
 · have hc : ¬ rtD X q < 0 := by rw [decide_eq_false_iff_not] at hc; exact fun g => hc (cl.2 g)
   have L6 := View.le_trans L4 (View.le_trans l5 l6)
   refine ⟨n, C04 L6 h2, s2, ?_⟩
   have z4 := T01 (⟨rtD X q, 0⟩ : Cq) ⟨rtD X q, 0⟩
   refine (Z02 (hr5.le l6) (hr5.le l6) (by omega) (by omega)).mono fun v V7 l7 ⟨r7, hv, hr7⟩ => ⟨r7, hv, ?_⟩
   refine (Z08 hr7 (hn.le (View.le_trans L6 l7)) (by omega) (by omega)).mono fun v V8 _ hv => ⟨_, hv, ?_⟩
   rw [y04]
   have e8 : (⟨rtD X q * rtD X q, 0⟩ : Cq).cmp ⟨N, 0⟩ = cmpR (rtD X q * rtD X q) N := o0n _ _
   rw [e8]
   unfold rtC; rw [if_neg hc]
theorem t0n {V : View} {k : Int} {p : Option Addr} {f : Fn2} {X N : Rat} (hp : V.load p = some (f.val E05))
 (h : a00 prog E05 #[.float .f64 (k00 k), .pointer f.p0, .pointer f.p1] V fun v _ => v = .int .i64 (rtC X N (fkq k))) :
 a00 prog F08 #[.float .f64 (k00 k), .pointer p] V fun v _ => v = .bool (decide (rtC X N (fkq k) ≤ 0)) :=
 w0i (k00 k) p V _ ⟨f, hp, h.mono fun v V1 _ hv => ⟨_, hv, rfl⟩⟩
theorem u0n {V : View} {f : Fn1} (U : Nat → Bool) (h0 : U 0 = true) (hU : ∀ V' (r : Nat), V.le V' → r < infR → a00 prog F08 #[.float .f64 r, .pointer f.p0] V' fun v _ => v = .bool (U r)) :
 a00 prog Y0j #[f.val F08] V fun v _ => ∃ r : Nat, v = .float .f64 r ∧ r < infR ∧ U r = true ∧ (r + 1 = infR ∨ U (r + 1) = false) := by
 have hi : infR = 9218868437227405312 := rfl
 refine t0i f V _ (fun _ x _ => ∃ lo hi : Nat, x.t3 = lo ∧ x.t4 = hi ∧ lo ≤ hi ∧ hi < infR ∧ U lo = true ∧ (hi + 1 = infR ∨ U (hi + 1) = false)) (fun _ x _ => (x.t4 - x.t3).toNat) ?_
 refine ⟨_, a05 9218868437227405311, ⟨0, 9218868437227405311, rfl, rfl, by omega, by omega, h0, .inl (by omega)⟩, ?_⟩
 rintro ⟨t3, t4⟩ V1 l1 ⟨lo, hi', rfl, rfl, hle, hlt, hU1, hU2⟩
 dsimp only
 refine ⟨fun hc => ?_, fun hc => ?_⟩
 · have hc : lo < hi' := by have : (lo : Int) < (hi' : Int) := by simpa using hc
                            omega
   obtain ⟨m, hm⟩ : ∃ m : Nat, m = lo + (hi' - lo + 1) / 2 := ⟨_, rfl⟩
   have w : u64.wrap ((lo : Int) + (u64.wrap (Int.tdiv (u64.wrap ((u64.wrap ((hi' : Int) - (lo : Int))) + 1)) 2))) = (m : Int) := by
    have e1 : (hi' : Int) - (lo : Int) = ((hi' - lo : Nat) : Int) := by omega
    rw [e1, b03 (y := hi' - lo) (by omega)]
    have e2 : ((hi' - lo : Nat) : Int) + 1 = ((hi' - lo + 1 : Nat) : Int) := by omega
    rw [e2, b03 (y := hi' - lo + 1) (by omega)]
    have e3 : Int.tdiv ((hi' - lo + 1 : Nat) : Int) 2 = (((hi' - lo + 1) / 2 : Nat) : Int) := (Int.ofNat_tdiv (hi' - lo + 1) 2).symm
    rw [e3, b03 (y := (hi' - lo + 1) / 2) (by omega)]
    have e4 : (lo : Int) + (((hi' - lo + 1) / 2 : Nat) : Int) = (m : Int) := by omega
    rw [e4, b03 (y := m) (by omega)]
   rw [w]
   refine ⟨m, F03 m, (hU V1 m l1 (by omega)).mono fun v V2 l2 hv => ⟨_, hv, fun hb => ?_, fun hb => ?_⟩⟩
   · exact ⟨⟨m, hi', rfl, rfl, by omega, hlt, hb, hU2⟩, by show ((hi' : Int) - (m : Int)).toNat < ((hi' : Int) - (lo : Int)).toNat; omega⟩
   · have w2 : u64.wrap ((m : Int) - 1) = ((m - 1 : Nat) : Int) := by
       have : (m : Int) - 1 = ((m - 1 : Nat) : Int) := by omega
       rw [this, b03 (by omega)]
     rw [w2]
     refine ⟨⟨lo, m - 1, rfl, rfl, by omega, by omega, hU1, .inr ?_⟩, by show (((m - 1 : Nat) : Int) - (lo : Int)).toNat < ((hi' : Int) - (lo : Int)).toNat; omega⟩
     have : m - 1 + 1 = m := by omega
     rw [this]; exact hb
 · have hc : lo = hi' := by have : ¬ (lo : Int) < (hi' : Int) := by simpa using hc
                            omega
   subst hc
   exact ⟨lo, F03 lo, lo, rfl, hlt, hU1, hU2⟩
theorem k0j {V : View} : a00 prog m0e #[.float .f64 1, .float .f64 infR] V fun v _ => v = .float .f64 1 := by
 refine q0d 1 infR V _ ?_
 refine ⟨_, a05 1, _, a05 infR, 1, ?_, rfl⟩
 have e := F03 1
 refine (?_ : f02 prog M02 #[.int .u64 ((1 : Nat) : Int)] (.float .f64 1) = _) ▸ e
 congr 3
theorem i0g {V : View} {r : Nat} (hr : r < infR) : a00 prog j0d #[.float .f64 r, .float .f64 infR] V fun v _ => v = .float .f64 (r + 1 : Nat) := by
 have hi : infR = 9218868437227405312 := rfl
 have ok1 : okW r := ⟨by omega, by rw [Nat.mod_eq_of_lt (by omega)]; omega⟩
 have ok2 : okW infR := ⟨by omega, by rw [Nat.mod_eq_of_lt (by omega)]; exact Nat.le_refl _⟩
 have ok0 : okW 0 := ⟨by decide, by decide⟩
 have k1 : key r = r := b09 (by omega)
 have k2 : key infR = infR := b09 (by omega)
 have k0 : key 0 = 0 := by decide
 refine l0c r infR V _ ((H04 ok1.1).mono fun v V1 _ hv => ⟨_, hv, fun h => ?_, fun _ => (H04 ok2.1).mono fun v V3 _ hv => ⟨_, hv, fun h => ?_, fun _ => ⟨fun h => ?_, fun _ => ⟨fun h => ?_, fun h => ⟨fun _ => ?_, fun h2 => ?_⟩⟩⟩⟩⟩)
 · have h : ¬ okW r := by simpa using h
   exact absurd ok1 h
 · have h : ¬ okW infR := by simpa using h
   exact absurd ok2 h
 · rw [l08 ok1 ok2, k1, k2] at h
   have h : (r : Int) = infR := by simpa using h
   omega
 · rw [l08 ok1 ok0, k1, k0] at h
   have h : (r : Int) = 0 := by simpa using h
   have r0 : r = 0 := by omega
   subst r0
   exact ⟨1, F03 1, k0j.mono fun v V5 _ hv => ⟨_, hv, rfl⟩⟩
 · refine ⟨_, a05 r, r + 1, ?_, rfl⟩
   have w : u64.wrap ((r : Int) + 1) = ((r + 1 : Nat) : Int) := by
    have : (r : Int) + 1 = ((r + 1 : Nat) : Int) := by omega
    rw [this, b03 (by omega)]
   rw [w]; exact F03 (r + 1)
 · exfalso
   rw [l08 ok1 ok0, k1, k0] at h
   have h : ¬ (r : Int) = 0 := by simpa using h
   rw [m0a ok2 ok1, m0a ok1 ok0, k1, k2, k0] at h2
   have a1 : decide ((r : Int) < (infR : Int)) = true := by rw [decide_eq_true_iff]; omega
   have a2 : decide ((0 : Int) < (r : Int)) = true := by rw [decide_eq_true_iff]; omega
   rw [a1, a2] at h2; exact absurd h2 (by decide)
theorem c03 {V : View} {a b : BdV} {e f : Eb} (up : Bool) (ha : BdAt V a e) (hb : BdAt V b f) (he : e.num.sz ≤ 2 ^ 12) (hf : f.num.sz ≤ 2 ^ 12) :
 a00 prog l0p #[a.val, b.val, .bool up] V fun v _ => ∃ k : Nat, v = .float .f64 k ∧ i00 e f up k := by
 have ia := ha.inf; have ib := hb.inf
 refine W0m a b up V _ ⟨fun h => ?_, fun h => ⟨fun h2 => ?_, fun h2 => ⟨fun h3 => ?_, fun h3 => ?_⟩⟩⟩
 · have h : 0 < e.inf := by rw [← ia]; simpa using h
   exact a09.mono fun v V1 _ hv => ⟨_, hv, infR, rfl, by unfold i00; rw [if_pos (.inl h)]⟩
 · have h2 : f.inf ≠ 0 := by rw [← ib]; simpa using h2
   exact a09.mono fun v V1 _ hv => ⟨_, hv, infR, rfl, by unfold i00; rw [if_pos (.inr h2)]⟩
 · have h : ¬ 0 < e.inf := by rw [← ia]; rw [decide_eq_false_iff_not] at h; exact h
   have h2 : ¬ f.inf ≠ 0 := by rw [← ib]; simpa using h2
   have h3 : e.inf < 0 := by rw [← ia]; simpa using h3
   exact ⟨0, rfl, by unfold i00; rw [if_neg (by rintro (g | g); exact h g; exact h2 g), if_pos h3]⟩
 · have h : ¬ 0 < e.inf := by rw [← ia]; rw [decide_eq_false_iff_not] at h; exact h
   have h2 : ¬ f.inf ≠ 0 := by rw [← ib]; simpa using h2
   have h3 : ¬ e.inf < 0 := by rw [← ia]; rw [decide_eq_false_iff_not] at h3; exact h3
   have goal : ∀ k, (∃ r, n06 (rtP e.x (e.x * e.x + f.x * f.x)) r ∧ k = if up = true ∧ rtC e.x (e.x * e.x + f.x * f.x) (fkq (r : Int)) ≠ 0 then r + 1 else r) → i00 e f up k := by
    intro k hk
    unfold i00; rw [if_neg (by rintro (g | g); exact h g; exact h2 g), if_neg h3]; exact hk
   obtain ⟨X, hX⟩ : ∃ X, X = e.x := ⟨_, rfl⟩
   obtain ⟨N, hN⟩ : ∃ N, N = e.x * e.x + f.x * f.x := ⟨_, rfl⟩
   have hXN : X * X ≤ N := by rw [hX, hN]; exact j0s _ _
   rw [← hN, ← hX] at goal
   have s1 := T01 e.num e.num; have s2 := T01 f.num f.num; have s3 := S05 (e.num * e.num) (f.num * f.num)
   refine (Z02 ha.num ha.num (by omega) (by omega)).mono fun v V3 l3 ⟨r3, hv, hr3⟩ => ⟨r3, hv, (Z02 (hb.num.le l3) (hb.num.le l3) (by omega) (by omega)).mono fun v V4 l4 ⟨r4, hv, hr4⟩ => ⟨r4, hv, ?_⟩⟩
   refine (Y06 (hr3.le l4) hr4 (by omega) (by omega)).mono fun v V5 l5 ⟨r5, hv, hr5⟩ => ⟨r5, hv, ?_⟩
   have e5 : e.num * e.num + f.num * f.num = ⟨N, 0⟩ := by
    show (⟨e.x, 0⟩ : Cq) * ⟨e.x, 0⟩ + ⟨f.x, 0⟩ * ⟨f.x, 0⟩ = _
    rw [y04, y04, I09, hN]
   rw [e5] at hr5 s3
   intro b1 V6 l6 hb1 b2 V7 l7 hb2 b3 V8 l8 hb3
   have zx : (⟨X, 0⟩ : Cq).sz ≤ 2 ^ 20 := by rw [hX]; exact Nat.le_trans he (by omega)
   have zn : (⟨N, 0⟩ : Cq).sz ≤ 2 ^ 30 := by omega
   have cmp : ∀ {V' : View} {k : Nat}, V8.le V' → k < infR → a00 prog E05 #[.float .f64 k, .pointer (some (Addr.mk b1 0 none)), .pointer (some (Addr.mk b2 0 none))] V' fun v _ => v = .int .i64 (rtC X N (fkq (k : Int))) := by
    intro V' k hle hk
    have L := View.le_trans (View.le_trans l7 l8) hle
    have L2 := View.le_trans l8 hle
    have := s0n (V := V') (k := (k : Int)) (p1 := some (Addr.mk b1 0 none)) (p2 := some (Addr.mk b2 0 none)) (x := a.x) (n := r5) (X := X) (N := N) (p03 (by omega)) (by rw [J02]; exact ⟨by unfold infR at hk; omega, by rw [Nat.mod_eq_of_lt (by unfold infR at hk; omega)]; exact hk⟩)
     (C04 L (J0v (k := 1) hb1)) rfl (C04 L2 (N0s hb2)) rfl
     (by rw [hX]; exact ha.num.le (View.le_trans l3 (View.le_trans l4 (View.le_trans l5 (View.le_trans l6 L))))) (hr5.le (View.le_trans l6 L)) zx zn
    rw [J02] at this
    exact this
   have ld : ∀ {V' : View}, V8.le V' → V'.load (some (Addr.mk b3 0 none)) = some ((Fn2.mk (some (Addr.mk b1 0 none)) (some (Addr.mk b2 0 none))).val E05) := by
    intro V' hle
    exact m02 hle (by simp only [View.load, hb3]; rfl)
   refine (u0n (f := Fn1.mk (some (Addr.mk b3 0 none))) (fun r => decide (rtC X N (fkq (r : Int)) ≤ 0)) ?_ ?_).mono fun v V9 l9 ⟨r, hv, hr, hU, hn⟩ => ⟨r, hv, ?_⟩
   · show decide (rtC X N (fkq ((0 : Nat) : Int)) ≤ 0) = true
     rw [show ((0 : Nat) : Int) = 0 from rfl, b08, decide_eq_true_iff, c0s]; exact H0d hXN
   · intro V' r hle hr
     have := t0n (V := V') (k := (r : Int)) (p := some (Addr.mk b3 0 none)) (ld hle) (by rw [J02]; exact cmp hle hr)
     rw [J02] at this
     exact this
   have top : n06 (rtP X N) r := by
    refine ⟨hr, c0s.1 (by simpa using hU), hn.imp id fun g => ?_⟩
    have g : ¬ rtC X N (fkq ((r + 1 : Nat) : Int)) ≤ 0 := by simpa using g
    exact fun p => g (c0s.2 p)
   refine ⟨fun hu => ⟨_, ld l9, (cmp l9 hr).mono fun v V10 l10 hv => ⟨_, hv, fun hc => ?_, fun hc => ?_⟩⟩, fun hu => ?_⟩
   · have hc : rtC X N (fkq (r : Int)) ≠ 0 := by simpa using hc
     refine a09.mono fun v V11 _ hv => ⟨_, hv, (i0g hr).mono fun v V12 _ hv => ⟨_, hv, r + 1, rfl, goal _ ⟨r, top, ?_⟩⟩⟩
     rw [if_pos ⟨hu, hc⟩]
   · have hc : rtC X N (fkq (r : Int)) = 0 := by simpa using hc
     exact ⟨r, rfl, goal _ ⟨r, top, by rw [if_neg (fun g => g.2 hc)]⟩⟩
   · exact ⟨r, rfl, goal _ ⟨r, top, by rw [if_neg (fun g => by rw [hu] at g; exact absurd g.1 (by decide))]⟩⟩

def sR (q : Rat) : Nat := (⟨q, 0⟩ : Cq).sz
theorem q08 (a b : Rat) : sR (a + b) ≤ sR a + sR b + 1 := by unfold sR; rw [← I09]; exact S05 _ _
theorem d05 (a b : Rat) : sR (a * b) ≤ sR a + sR b + 1 := by unfold sR; rw [← y04]; exact T01 _ _
theorem i0h (a b : Rat) : sR (a - b) ≤ sR a + sR b + 1 := by unfold sR; rw [← o0o]; exact z0l _ _
theorem O0u (a : Rat) : sR (-a) = sR a := by unfold sR; rw [← Z0i]; exact j09 _
theorem P0u : sR 1 ≤ 4 := by unfold sR; decide +kernel
theorem Q0u : sR 2 ≤ 4 := by unfold sR; decide +kernel
theorem j0u : sR 3 ≤ 4 := by unfold sR; decide +kernel
theorem K0v : sR 4 ≤ 4 := by unfold sR; decide +kernel
theorem X0s {k : Nat} : sR (m07 k) ≤ k + 1 := by
 have R := f0f k 1
 rw [show ((1 : Int) : Rat) * m07 k = m07 k from Rat.one_mul _] at R
 have := Z01 k
 exact R.sz (by rw [show (1 : Int).natAbs = 1 from rfl, Q0n]; omega) (by rw [Int.natAbs_zero, Y05]; omega) (by omega)
theorem eqK {a b : Int} (ha : inK a) (hb : inK b) : (FloatKind.f64.format.order (k00 a) (k00 b) == some .eq) = decide (a = b) := by
 have h1 := leK ha hb
 have h2 := ltK ha hb
 have e : ∀ o : Option Ordering, ((o == some .lt) || (o == some .eq)) = decide (a ≤ b) → (o == some .lt) = decide (a < b) → (o == some .eq) = decide (a = b) := by
  intro o h h'
  by_cases c : a = b
  · subst c
    rw [decide_eq_false (by omega)] at h'
    rw [h', decide_eq_true (by omega)] at h
    simpa using h
  · rw [decide_eq_false c]
    by_cases d : a < b
    · rw [decide_eq_true d] at h'
      cases o with
      | none => rfl
      | some o => cases o <;> first | rfl | exact absurd h' (by decide)
    · rw [decide_eq_false (by omega)] at h
      cases o with
      | none => rfl
      | some o => cases o <;> first | rfl | exact absurd h (by decide)
 exact e _ h1 h2
theorem j0h {a : Int} {k : Nat} (h : (k : Int) < a) : (a - ((k + 64 : Nat) : Int)).toNat < (a - (k : Int)).toNat := by omega
def sqP (v q : Rat) : Prop := q * q ≤ v
theorem L0d (v : Rat) : ∀ p q, 0 ≤ p → p ≤ q → sqP v q → sqP v p := fun _ _ h0 h g => Rat.le_trans (B04 h0 h) g
def topQ : Rat := fkq ((infR - 1 : Nat) : Int)
theorem k0u {v : Rat} {r : Nat} (hv : v < topQ * topQ) (h : n06 (sqP v) r) : r + 1 < infR ∧ v < fkq ((r + 1 : Nat) : Int) * fkq ((r + 1 : Nat) : Int) := by
 have hi : infR = 9218868437227405312 := rfl
 have key : r + 1 ≠ infR := by
  intro e
  have e2 : infR - 1 = r := by omega
  have := h.le
  unfold topQ at hv; rw [e2] at hv
  unfold sqP at this; grind
 have lt := h.lt
 refine ⟨by omega, ?_⟩
 rcases h.next with e | e
 · exact absurd e key
 · unfold sqP at e; exact Rat.not_le.1 e
theorem S0u {r : Nat} (h : r < infR) : inK (r : Int) := p03 (by omega)
theorem Y0s {r : Nat} (h : r < infR) : inK ((r + 1 : Nat) : Int) := p03 (by omega)
def L0v (v : Rat) (r : Nat) (up : Int) : Prop := n06 (sqP v) r ∧ up = if fkq (r : Int) * fkq (r : Int) = v then (r : Int) else ((r + 1 : Nat) : Int)
theorem j0g {V : View} {x : NumV} {v0 : Rat} (hx : QAt V x ⟨v0, 0⟩) (h0 : 0 ≤ v0) (hz : sR v0 ≤ 2 ^ 20) (hb : v0 < topQ * topQ) :
 a00 prog f0m #[x.val] V fun v V' => ∃ (r : Nat) (up : Int), v = .tuple #[.float .f64 (k00 (r : Int)), .float .f64 (k00 up)] ∧ L0v v0 r up := by
 have hz' : (⟨v0, 0⟩ : Cq).sz ≤ 2 ^ 20 := hz
 obtain ⟨r, hr⟩ := c07 (P := sqP v0) (by unfold sqP; grind)
 obtain ⟨nx, hA⟩ := k0u hb hr
 obtain ⟨B, hB⟩ : ∃ B, B = fkq (r : Int) := ⟨_, rfl⟩
 obtain ⟨A, hA'⟩ : ∃ A, A = fkq ((r + 1 : Nat) : Int) := ⟨_, rfl⟩
 have sB : sR B ≤ 2100 := hB ▸ Y0e (S0u hr.lt)
 have sA : sR A ≤ 2100 := hA' ▸ Y0e (Y0s hr.lt)
 have BA : B < A := by rw [hB, hA']; exact d0s.2 (by omega)
 have B0 : 0 ≤ B := hB ▸ T02 r
 have hB1 : B * B ≤ v0 := hB ▸ hr.le
 rw [← hA'] at hA
 refine n0k x V _ (fun _ x _ => ∃ k : Nat, x.t6 = k ∧ k ≤ 2 ^ 23 + 64) (fun _ x _ => (2 ^ 24 - x.t6).toNat) ((w0a hx h0 (by omega)).mono fun v V1 l1 ⟨r1, b, hv, k1, k2⟩ => ⟨r1, b, hv, fun hc => ?_, fun hc => ?_⟩)
 · obtain ⟨z, hz1, z0, hz2⟩ := k1 hc
   have zs := g0n hz2 hz'
   obtain ⟨r', t1, t2, t3⟩ := f0s (L0d v0) z0 (by unfold sqP; grind) (fun q h => by unfold sqP; have := d0n z0 h; grind)
   have := hr.unique (L0d v0) t1
   subst this
   refine (k02 hz1 (by omega)).mono fun v V2 l2 hv => ⟨_, hv, (K01 (hz1.le l2) (by omega)).mono fun v V3 _ hv => ⟨_, hv, r, H00 z, ?_, hr, ?_⟩⟩
   · have t2 : l00 (⟨z, 0⟩ : Cq).re = r := t2
     rw [t2]
   · rcases t3 with ⟨e, f⟩ | ⟨e, f⟩
     · rw [if_pos (by rw [e]; exact hz2), f]
     · rw [if_neg (fun g => by have := d0n (T02 r) e; grind), f]
 have ns := k2 hc
 have hB2 : B * B < v0 := by have := ns B B0; grind
 refine ⟨⟨64, rfl, by omega⟩, ?_⟩
 rintro ⟨t⟩ V4 l4 ⟨k, rfl, hk⟩
 dsimp only
 replace hx := hx.le (View.le_trans l1 l4)
 refine (S03 hx h0 hz' (by omega) (by omega)).mono fun v V5 l5 ⟨r5, lo, hv, h5, s5, lo0, lo1, lo2⟩ => ⟨r5, hv, ?_⟩
 refine (n07 (by omega)).mono fun v V6 l6 ⟨r6, hv, h6⟩ => ⟨r6, hv, ?_⟩
 have su := X0s (k := k)
 have su : (⟨m07 k, 0⟩ : Cq).sz ≤ k + 1 := su
 have u0 := S0b k
 have u1 := y0l k
 have um := Q0b k
 obtain ⟨u, hu⟩ : ∃ u, u = m07 k := ⟨_, rfl⟩
 rw [← hu] at h6 lo2 su u0 u1 um
 refine (a04 (h5.le l6) h6 (by omega) (by omega)).mono fun v V7 l7 ⟨r7, hv, h7⟩ => ⟨r7, hv, ?_⟩
 have s7 := S05 (⟨lo, 0⟩ : Cq) ⟨u, 0⟩
 rw [I09] at h7 s7
 have b5 := p04 lo; have b7 := p04 (lo + u); have a5 := E06 lo; have a7 := E06 (lo + u)
 have L7 := View.le_trans l6 l7
 have next : (¬ (l00 lo = l00 (lo + u) ∧ H00 lo = H00 (lo + u))) → (∃ k' : Nat, i64.wrap ((k : Int) + 64) = k' ∧ k' ≤ 2 ^ 23 + 64) ∧ (2 ^ 24 - i64.wrap ((k : Int) + 64)).toNat < (2 ^ 24 - (k : Int)).toNat := by
  intro g
  have hk2 : k < 2 ^ 23 := by
   refine Nat.not_le.1 fun c => g ?_
   have z1 := d05 2 B; have z2 := q08 (2 * B) 1; have z3 := d05 B B; have z4 := i0h v0 (B * B)
   have y1 := d05 2 A; have y2 := q08 (2 * A) 1; have y3 := d05 A A; have y4 := i0h (A * A) v0
   have o1 := P0u; have o2 := Q0u
   have sm1 : u * (2 * B + 1) ≤ v0 - B * B := small (S := 2 ^ 21) (K := k) (by show sR _ ≤ _; omega) (by show sR _ ≤ _; omega) (by grind) (by omega) (Rat.le_of_lt u0) um
   have sm2 : u * (2 * A + 1) ≤ A * A - v0 := small (S := 2 ^ 21) (K := k) (by show sR _ ≤ _; omega) (by show sR _ ≤ _; omega) (by grind) (by omega) (Rat.le_of_lt u0) um
   obtain ⟨c1, c2⟩ := l0q B0 BA hB2 hA u0 u1 sm1 sm2 lo0 lo1 lo2
   rw [hB] at c1; rw [hA'] at c2
   exact g0s nx c1 (by grind) c2
  have w : i64.wrap ((k : Int) + 64) = ((k + 64 : Nat) : Int) := by rw [i64w (by omega) (by omega)]; omega
  rw [w]
  exact ⟨⟨k + 64, rfl, by omega⟩, j0h (by omega)⟩
 refine (k02 (h5.le L7) (by omega)).mono fun v V8 l8 hv => ⟨_, hv, (k02 (h7.le l8) (by omega)).mono fun v V9 l9 hv => ⟨_, hv, ?_⟩⟩
 have q1 := eqK b5 b7
 have q2 := eqK a5 a7
 refine ⟨fun hc => ?_, fun hc => ?_⟩
 · have hc : l00 lo = l00 (lo + u) := of_decide_eq_true (q1 ▸ hc)
   have L9 := View.le_trans L7 (View.le_trans l8 l9)
   refine (K01 (h5.le L9) (by omega)).mono fun v V10 l10 hv => ⟨_, hv, (K01 (h7.le (View.le_trans l8 (View.le_trans l9 l10))) (by omega)).mono fun v V11 l11 hv => ⟨_, hv, ?_⟩⟩
   refine ⟨fun hd => ?_, fun hd => ?_⟩
   · have hd : H00 lo = H00 (lo + u) := of_decide_eq_true (q2 ▸ hd)
     have L11 := View.le_trans L9 (View.le_trans l10 l11)
     refine (k02 (h5.le L11) (by omega)).mono fun v V12 l12 hv => ⟨_, hv, (K01 (h5.le (View.le_trans L11 l12)) (by omega)).mono fun v V13 l13 hv => ⟨_, hv, ?_⟩⟩
     obtain ⟨r', t1, t2, t3, q, t4, t5⟩ := e0s (L0d v0) lo0 (by grind) (show sqP v0 lo from lo1) (fun g => Rat.not_lt.2 g lo2) hc hd
     have := hr.unique (L0d v0) t1
     subst this
     refine ⟨r, H00 lo, ?_, hr, ?_⟩
     · have t2 : l00 (⟨lo, 0⟩ : Cq).re = r := t2
       rw [t2]
     · rw [if_neg (by rw [← hB]; exact Rat.ne_of_lt hB2), t3]
   · have hd : ¬ H00 lo = H00 (lo + u) := of_decide_eq_false (q2 ▸ hd)
     exact next fun g => hd g.2
 · have hc : ¬ l00 lo = l00 (lo + u) := of_decide_eq_false (q1 ▸ hc)
   exact next fun g => hc g.1

theorem lt0K {k : Int} (h : inK k) : (FloatKind.f64.format.order (k00 k) 0 == some .lt) = decide (k < 0) := ltK h i07
theorem l0j {V : View} {b : Bk} (h : b.ok) : a00 prog c0p #[b.v.val] V fun v _ => ∃ t : Bk, v = .tuple #[t.v.val, .bool true] ∧ J0e b t := by
 have l0 := lt0K h.im.lo
 have h0 := lt0K h.im.hi
 have z1 : (endE b.re.lo).num.sz ≤ 2 ^ 12 := P05 h.re.lo
 have z2 : (endE b.re.hi).num.sz ≤ 2 ^ 12 := P05 h.re.hi
 have z3 : (endE b.im.lo).num.sz ≤ 2 ^ 12 := P05 h.im.lo
 have z4 : (endE b.im.hi).num.sz ≤ 2 ^ 12 := P05 h.im.hi
 have sz := T0s (N09 h.im) (by omega)
 have sz1 : b.im.set.size.lo.num.sz ≤ 2 ^ 12 := Nat.le_trans sz.1 (by omega)
 have sz2 : b.im.set.size.hi.num.sz ≤ 2 ^ 12 := Nat.le_trans sz.2 (by omega)
 have plus : ∀ {V : View} {k : Nat}, k ≤ infR → a00 prog C0a #[.float .f64 k] V fun v _ => v = .float .f64 (k00 (k : Int)) := by
  intro V k hk
  have := M09 (V := V) (okK (p03 hk))
  rw [keyK (p03 hk), J02] at this
  rw [J02]; exact this
 have minus : ∀ {V : View} {k : Nat}, k ≤ infR → a00 prog C0a #[.float .f64 (Op.negFloat .f64 k)] V fun v _ => v = .float .f64 (k00 (-(k : Int))) := by
  intro V k hk
  have a := Q08 (okK (p03 hk))
  have := M09 (V := V) a.1
  rw [a.2, keyK (p03 hk), J02] at this
  exact this
 refine X0m b.v V _ ((q06 h.re).mono fun v V1 l1 ⟨x, hv, hx⟩ => ⟨x, hv, (q06 h.im).mono fun v V2 l2 ⟨y, hv, hy⟩ => ⟨y, hv, ?_⟩⟩)
 replace hx := hx.le l2
 refine (i0j hy (N09 h.im) (by omega)).mono fun v V3 l3 ⟨s, hv, hs⟩ => ⟨s, hv, ?_⟩
 refine (c03 false (hx.lo.le l3) hs.lo z1 sz1).mono fun v V4 l4 ⟨k1, hv, hk1⟩ => ⟨k1, hv, ?_⟩
 refine (c03 true (hx.hi.le (View.le_trans l3 l4)) (hs.hi.le l4) z2 sz2).mono fun v V5 l5 ⟨k2, hv, hk2⟩ => ⟨k2, hv, ?_⟩
 have L5 := View.le_trans l3 (View.le_trans l4 l5)
 have nz : ∀ {e : Eb}, e.num.sz ≤ 2 ^ 12 → e.neg.num.sz ≤ 2 ^ 12 := fun g => by rw [I04]; exact g
 have ret : ∀ {k3 k4 : Nat} {w3 w4 : Nat} (c : Int) (d : Int), w3 = k00 c → w4 = k00 d →
  (∃ k : Nat, (b.im.lo < 0 → c = -(k : Int) ∧ i00 b.re.set.lo.neg b.im.set.lo.neg true k) ∧ (¬ b.im.lo < 0 → c = k ∧ i00 b.re.set.hi.neg b.im.set.lo false k)) →
  (∃ k : Nat, (b.im.hi < 0 → d = -(k : Int) ∧ i00 b.re.set.hi.neg b.im.set.hi.neg false k) ∧ (¬ b.im.hi < 0 → d = k ∧ i00 b.re.set.lo.neg b.im.set.hi true k)) →
  ∃ t : Bk, Value.tuple #[(BoxV.mk (SpV.mk k1 k2) (SpV.mk w3 w4)).val, .bool true] = .tuple #[t.v.val, .bool true] ∧ J0e b t := by
  intro _ _ w3 w4 c d e3 e4 g3 g4
  refine ⟨⟨⟨(k1 : Int), (k2 : Int)⟩, ⟨c, d⟩⟩, ?_, ⟨⟨k1, rfl, hk1⟩, ⟨k2, rfl, hk2⟩, g3, g4⟩⟩
  unfold Bk.v Sk.v; rw [J02, J02, e3, e4]
 refine ⟨fun hc => ?_, fun hc => ?_⟩
 · have hc : b.im.lo < 0 := by have := l0 ▸ hc; simpa using this
   refine (Y00 (hx.lo.le L5)).mono fun v V6 l6 ⟨r6, hv, h6⟩ => ⟨r6, hv, (Y00 (hy.lo.le (View.le_trans L5 l6))).mono fun v V7 l7 ⟨r7, hv, h7⟩ => ⟨r7, hv, ?_⟩⟩
   refine (c03 true (h6.le l7) h7 (nz z1) (nz z3)).mono fun v V8 l8 ⟨k3, hv, hk3⟩ => ⟨k3, hv, ?_⟩
   have L8 := View.le_trans L5 (View.le_trans l6 (View.le_trans l7 l8))
   have g3 : ∃ k : Nat, (b.im.lo < 0 → (-(k3 : Int)) = -(k : Int) ∧ i00 b.re.set.lo.neg b.im.set.lo.neg true k) ∧ (¬ b.im.lo < 0 → (-(k3 : Int)) = k ∧ i00 b.re.set.hi.neg b.im.set.lo false k) := ⟨k3, fun _ => ⟨rfl, hk3⟩, fun g => absurd hc g⟩
   refine ⟨fun hd => ?_, fun hd => ?_⟩
   · have hd : b.im.hi < 0 := by have := h0 ▸ hd; simpa using this
     refine (Y00 (hx.hi.le L8)).mono fun v V9 l9 ⟨r9, hv, h9⟩ => ⟨r9, hv, (Y00 (hy.hi.le (View.le_trans L8 l9))).mono fun v V10 l10 ⟨r10, hv, h10⟩ => ⟨r10, hv, ?_⟩⟩
     refine (c03 false (h9.le l10) h10 (nz z2) (nz z4)).mono fun v V11 _ ⟨k4, hv, hk4⟩ => ⟨k4, hv, (minus hk3.le).mono fun v V12 _ hv => ⟨_, hv, (minus hk4.le).mono fun v V13 _ hv => ⟨_, hv, ?_⟩⟩⟩
     exact ret (k3 := k3) (k4 := k4) _ _ rfl rfl g3 ⟨k4, fun _ => ⟨rfl, hk4⟩, fun g => absurd hd g⟩
   · have hd : ¬ b.im.hi < 0 := by have := h0 ▸ hd; simpa using this
     refine (Y00 (hx.lo.le L8)).mono fun v V9 l9 ⟨r9, hv, h9⟩ => ⟨r9, hv, ?_⟩
     refine (c03 true h9 (hy.hi.le (View.le_trans L8 l9)) (nz z1) z4).mono fun v V11 _ ⟨k4, hv, hk4⟩ => ⟨k4, hv, (minus hk3.le).mono fun v V12 _ hv => ⟨_, hv, (plus hk4.le).mono fun v V13 _ hv => ⟨_, hv, ?_⟩⟩⟩
     exact ret (k3 := k3) (k4 := k4) _ _ rfl rfl g3 ⟨k4, fun g => absurd g hd, fun _ => ⟨rfl, hk4⟩⟩
 · have hc : ¬ b.im.lo < 0 := by have := l0 ▸ hc; simpa using this
   refine (Y00 (hx.hi.le L5)).mono fun v V6 l6 ⟨r6, hv, h6⟩ => ⟨r6, hv, ?_⟩
   refine (c03 false h6 (hy.lo.le (View.le_trans L5 l6)) (nz z2) z3).mono fun v V8 l8 ⟨k3, hv, hk3⟩ => ⟨k3, hv, ?_⟩
   have L8 := View.le_trans L5 (View.le_trans l6 l8)
   have g3 : ∃ k : Nat, (b.im.lo < 0 → (k3 : Int) = -(k : Int) ∧ i00 b.re.set.lo.neg b.im.set.lo.neg true k) ∧ (¬ b.im.lo < 0 → (k3 : Int) = k ∧ i00 b.re.set.hi.neg b.im.set.lo false k) := ⟨k3, fun g => absurd g hc, fun _ => ⟨rfl, hk3⟩⟩
   refine ⟨fun hd => ?_, fun hd => ?_⟩
   · have hd : b.im.hi < 0 := by have := h0 ▸ hd; simpa using this
     refine (Y00 (hx.hi.le L8)).mono fun v V9 l9 ⟨r9, hv, h9⟩ => ⟨r9, hv, (Y00 (hy.hi.le (View.le_trans L8 l9))).mono fun v V10 l10 ⟨r10, hv, h10⟩ => ⟨r10, hv, ?_⟩⟩
     refine (c03 false (h9.le l10) h10 (nz z2) (nz z4)).mono fun v V11 _ ⟨k4, hv, hk4⟩ => ⟨k4, hv, (plus hk3.le).mono fun v V12 _ hv => ⟨_, hv, (minus hk4.le).mono fun v V13 _ hv => ⟨_, hv, ?_⟩⟩⟩
     exact ret (k3 := k3) (k4 := k4) _ _ rfl rfl g3 ⟨k4, fun _ => ⟨rfl, hk4⟩, fun g => absurd hd g⟩
   · have hd : ¬ b.im.hi < 0 := by have := h0 ▸ hd; simpa using this
     refine (Y00 (hx.lo.le L8)).mono fun v V9 l9 ⟨r9, hv, h9⟩ => ⟨r9, hv, ?_⟩
     refine (c03 true h9 (hy.hi.le (View.le_trans L8 l9)) (nz z1) z4).mono fun v V11 _ ⟨k4, hv, hk4⟩ => ⟨k4, hv, (plus hk3.le).mono fun v V12 _ hv => ⟨_, hv, (plus hk4.le).mono fun v V13 _ hv => ⟨_, hv, ?_⟩⟩⟩
     exact ret (k3 := k3) (k4 := k4) _ _ rfl rfl g3 ⟨k4, fun g => absurd g hd, fun _ => ⟨rfl, hk4⟩⟩

def invX (q : Rat) : Rat := ((⟨1, 0⟩ : Cq).div ⟨q, 0⟩).re
def invB (e : Eb) : Eb := if e.inf ≠ 0 then Eb.fin 0 else ⟨0, invX e.x⟩
theorem div_one (q : Rat) : (⟨((1 : Int) : Rat), 0⟩ : Cq).div ⟨q, 0⟩ = ⟨invX q, 0⟩ := by
 refine Cq.ext' ?_ ?_
 · unfold invX; rw [Rat.intCast_one]
 · show ((0 : Rat) * q - ((1 : Int) : Rat) * 0) / _ = 0
   have : (0 : Rat) * q - ((1 : Int) : Rat) * 0 = 0 := by grind
   rw [this, Rat.div_def, Rat.zero_mul]
def Es.inv (t : Es) : Es := ⟨invB t.hi, invB t.lo⟩
def Sk.div (s t : Sk) : Sk := if t.lo ≤ 0 ∧ 0 ≤ t.hi then Sk.nil else (s.set.mul (Es.inv t.set)).span
theorem g0f : 2 ≤ topQ := by unfold topQ; decide +kernel
theorem L0v.is {e : Eb} (he : e.inf = 0) (x0 : 0 ≤ e.x) {r : Nat} {up : Int} (h : L0v e.x r up) : i00 e (Eb.fin 0) false r ∧ ∃ l : Nat, up = l ∧ i00 e (Eb.fin 0) true l := by
 obtain ⟨h1, h2⟩ := h
 have n0 : e.x * e.x + (Eb.fin 0).x * (Eb.fin 0).x = e.x * e.x := by show e.x * e.x + 0 * 0 = _; grind
 have c1 : ¬ (0 < e.inf ∨ (Eb.fin 0).inf ≠ 0) := by rw [he]; rintro (g | g); exact absurd g (by decide); exact g rfl
 have c2 : ¬ e.inf < 0 := by omega
 have eqv : ∀ q, 0 ≤ q → (sqP e.x q ↔ rtP e.x (e.x * e.x) q) := by
  intro q q0
  unfold sqP rtP
  constructor
  · intro g
    by_cases d : rtD e.x q < 0
    · exact .inl d
    · exact .inr (B04 (by grind) (by unfold rtD; grind))
  · rintro (g | g)
    · unfold rtD at g; grind
    · have := m06 x0 g
      unfold rtD at this; grind
 have t := h1.congr eqv
 have zz : rtC e.x (e.x * e.x) (fkq (r : Int)) = 0 ↔ fkq (r : Int) * fkq (r : Int) = e.x := by
  rw [E09]
  constructor
  · rintro ⟨g1, g2⟩
    have a := m06 x0 (show rtD e.x (fkq (r : Int)) * rtD e.x (fkq (r : Int)) ≤ e.x * e.x by grind)
    have b := m06 g1 (show e.x * e.x ≤ rtD e.x (fkq (r : Int)) * rtD e.x (fkq (r : Int)) by grind)
    unfold rtD at a b; grind
  · intro g
    have : rtD e.x (fkq (r : Int)) = e.x := by unfold rtD; grind
    rw [this]; exact ⟨x0, rfl⟩
 refine ⟨?_, ?_⟩
 · unfold i00; rw [if_neg c1, if_neg c2, n0]
   exact ⟨r, t, by rw [if_neg (fun g => absurd g.1 (by decide))]⟩
 · by_cases d : fkq (r : Int) * fkq (r : Int) = e.x
   · rw [if_pos d] at h2
     refine ⟨r, h2, ?_⟩
     unfold i00; rw [if_neg c1, if_neg c2, n0]
     exact ⟨r, t, by rw [if_neg (fun g => g.2 (zz.2 d))]⟩
   · rw [if_neg d] at h2
     refine ⟨r + 1, h2, ?_⟩
     unfold i00; rw [if_neg c1, if_neg c2, n0]
     exact ⟨r, t, by rw [if_pos ⟨rfl, fun g => d (zz.1 g)⟩]⟩

theorem Z0s {z : Rat} : (⟨z, 0⟩ : Cq).div ⟨((2 : Int) : Rat), 0⟩ = ⟨z / 2, 0⟩ := by
 have e2 : ((2 : Int) : Rat) = 2 := rfl
 refine Cq.ext' ?_ ?_
 · show (z * ((2 : Int) : Rat) + 0 * 0) / (((2 : Int) : Rat) * ((2 : Int) : Rat) + 0 * 0) = z / 2
   rw [e2]; grind
 · show ((0 : Rat) * ((2 : Int) : Rat) - z * 0) / _ = 0
   have : (0 : Rat) * ((2 : Int) : Rat) - z * 0 = 0 := by grind
   rw [this, Rat.div_def, Rat.zero_mul]
theorem K0w : (⟨((2 : Int) : Rat), 0⟩ : Cq).sz ≤ 2 := (Rep.ofInt 2).sz (by decide) (by decide) (by decide)
theorem i08 {V : View} {x t : NumV} {z : Rat} {S : Nat} (hx : QAt V x ⟨z, 0⟩) (ht : QAt V t ⟨((2 : Int) : Rat), 0⟩) (hz : sR z ≤ S) (h4 : 2 ≤ S) (hS : S ≤ 2 ^ 36) :
 a00 prog D0g #[x.val, t.val] V fun v V' => ∃ (r : NumV) (e : Int), v = .tuple #[r.val, .int .i64 e] ∧ QAt V' r ⟨z / 2, 0⟩ ∧ sR (z / 2) ≤ 4 * S + 8 := by
 have hz' : (⟨z, 0⟩ : Cq).sz ≤ S := hz
 have two := K0w
 refine (j0j hx ht (by omega) (by omega)).mono fun v V1 _ ⟨r, e, hv, hr, _⟩ => ⟨r, e, hv, ?_, ?_⟩
 · rw [Z0s] at hr; exact hr
 · have := L0u hz' (Nat.le_trans two h4)
   rw [Z0s] at this; exact this
def w0n (x y : Rat) (r : Nat) (up : Int) : Prop := n06 (rtP x (x * x + y * y)) r ∧ up = if rtC x (x * x + y * y) (fkq (r : Int)) = 0 then (r : Int) else ((r + 1 : Nat) : Int)
theorem P09 {V : View} {x y : NumV} {a b : Rat} {S : Nat} (hx : QAt V x ⟨a, 0⟩) (hy : QAt V y ⟨b, 0⟩) (ha : sR a ≤ S) (hb : sR b ≤ S) (hS : S ≤ 2 ^ 36) :
 a00 prog g0c #[x.val, y.val] V fun v V' => ∃ r : NumV, v = r.val ∧ QAt V' r ⟨a + b, 0⟩ := by
 have ha' : (⟨a, 0⟩ : Cq).sz ≤ S := ha
 have hb' : (⟨b, 0⟩ : Cq).sz ≤ S := hb
 exact (a04 hx hy (by omega) (by omega)).mono fun v V1 _ ⟨r, hv, hr⟩ => ⟨r, hv, by rw [I09] at hr; exact hr⟩
theorem a0t {V : View} {x : NumV} {a : Rat} (hx : QAt V x ⟨a, 0⟩) (ha : sR a ≤ 2 ^ 36) :
 a00 prog E0g #[x.val, x.val] V fun v V' => ∃ r : NumV, v = r.val ∧ QAt V' r ⟨a * a, 0⟩ := by
 have ha' : (⟨a, 0⟩ : Cq).sz ≤ 2 ^ 36 := ha
 exact (a03 hx hx (by omega) (by omega)).mono fun v V1 _ ⟨r, hv, hr⟩ => ⟨r, hv, by rw [y04] at hr; exact hr⟩
theorem b0t {V : View} {rl rh : NumV} {lo hi : Rat} {N : Prop} {F : Value → Prop} (h1 : QAt V rl ⟨lo, 0⟩) (h2 : QAt V rh ⟨hi, 0⟩) (s1 : sR lo ≤ 2 ^ 30) (s2 : sR hi ≤ 2 ^ 30)
 (hN : ¬ (l00 lo = l00 hi ∧ H00 lo = H00 hi) → N) (hF : l00 lo = l00 hi → H00 lo = H00 hi → F (.tuple #[.float .f64 (k00 (l00 lo)), .float .f64 (k00 (H00 lo))])) :
 a00 prog I03 #[rl.val] V fun v V23 => ∃ r27 : Nat, v = .float .f64 r27 ∧ a00 prog I03 #[rh.val] V23 fun v V24 => ∃ r28 : Nat, v = .float .f64 r28 ∧
  ((FloatKind.f64.format.order r27 r28 == some .eq) = true →
    a00 prog J03 #[rl.val] V24 fun v V25 => ∃ r29 : Nat, v = .float .f64 r29 ∧ a00 prog J03 #[rh.val] V25 fun v V26 => ∃ r30 : Nat, v = .float .f64 r30 ∧
     ((FloatKind.f64.format.order r29 r30 == some .eq) = true →
       a00 prog I03 #[rl.val] V26 fun v V27 => ∃ r31 : Nat, v = .float .f64 r31 ∧ a00 prog J03 #[rl.val] V27 fun v _ => ∃ r32 : Nat, v = .float .f64 r32 ∧ F (.tuple #[.float .f64 r31, .float .f64 r32])) ∧
     ((FloatKind.f64.format.order r29 r30 == some .eq) = false → N)) ∧
  ((FloatKind.f64.format.order r27 r28 == some .eq) = false → N) := by
 have b5 := p04 lo; have b7 := p04 hi; have a5 := E06 lo; have a7 := E06 hi
 have q1 := eqK b5 b7
 have q2 := eqK a5 a7
 have s1 : (⟨lo, 0⟩ : Cq).sz ≤ 2 ^ 30 := s1
 have s2 : (⟨hi, 0⟩ : Cq).sz ≤ 2 ^ 30 := s2
 refine (k02 h1 s1).mono fun v V8 l8 hv => ⟨_, hv, (k02 (h2.le l8) s2).mono fun v V9 l9 hv => ⟨_, hv, ?_⟩⟩
 refine ⟨fun hc => ?_, fun hc => ?_⟩
 · have hc : l00 lo = l00 hi := of_decide_eq_true (q1 ▸ hc)
   have L9 := View.le_trans l8 l9
   refine (K01 (h1.le L9) s1).mono fun v V10 l10 hv => ⟨_, hv, (K01 (h2.le (View.le_trans L9 l10)) s2).mono fun v V11 l11 hv => ⟨_, hv, ?_⟩⟩
   refine ⟨fun hd => ?_, fun hd => ?_⟩
   · have hd : H00 lo = H00 hi := of_decide_eq_true (q2 ▸ hd)
     have L11 := View.le_trans L9 (View.le_trans l10 l11)
     exact (k02 (h1.le L11) s1).mono fun v V12 l12 hv => ⟨_, hv, (K01 (h1.le (View.le_trans L11 l12)) s1).mono fun v V13 l13 hv => ⟨_, hv, hF hc hd⟩⟩
   · have hd : ¬ H00 lo = H00 hi := of_decide_eq_false (q2 ▸ hd)
     exact hN fun g => hd g.2
 · have hc : ¬ l00 lo = l00 hi := of_decide_eq_false (q1 ▸ hc)
   exact hN fun g => hc g.1
theorem cmp_neg {q : Rat} : cmpR q 0 < 0 ↔ q < 0 := by
 unfold cmpR
 by_cases c : q < 0
 · rw [if_pos c]; exact ⟨fun _ => c, fun _ => by decide⟩
 · rw [if_neg c]; constructor
   · intro h; split at h <;> exact absurd h (by decide)
   · intro h; exact absurd h c
theorem c0t {X Y : Rat} {r : Nat} (hr : n06 (rtP X (X * X + Y * Y)) r) (x0 : -topQ ≤ X) (x1 : X ≤ topQ) (y0 : -topQ ≤ Y) (y1 : Y ≤ topQ) : r + 1 < infR := by
 have i1 : 1 ≤ infR := by decide
 have := hr.lt
 have key : r + 1 ≠ infR := by
  intro e
  have e2 : r = infR - 1 := by omega
  have h := hr.le
  rw [e2] at h
  exact Q0t g0f x0 x1 y0 y1 h
 omega
theorem x0n {X n a u lo h : Rat} {k r : Nat} (hr : n06 (rtP X n) r) (r1 : r + 1 < infR) (sX : sR X ≤ 2100) (sn : sR n ≤ 10000) (n0 : 0 ≤ n) (ns : ∀ p, 0 ≤ p → p * p ≠ n) (u0 : 0 < u) (u1 : u ≤ 1) (um : u * ((2 ^ k : Nat) : Rat) = 1) (hk : 2 ^ 23 ≤ k)
 (a0 : 0 ≤ a) (a1 : a * a ≤ n) (a2 : n < (a + u) * (a + u)) {v : Rat} (v1 : a + X ≤ v * 2) (lo0 : 0 ≤ lo) (l2 : v < (lo + u) * (lo + u)) (hh0 : 0 ≤ h) (hh1 : h * h * 2 ≤ a + u + X) : fkq (r : Int) < lo ∧ h + u < fkq ((r + 1 : Nat) : Int) := by
 obtain ⟨B, hB⟩ : ∃ B, B = fkq (r : Int) := ⟨_, rfl⟩
 obtain ⟨A, hA⟩ : ∃ A, A = fkq ((r + 1 : Nat) : Int) := ⟨_, rfl⟩
 have sB : sR B ≤ 2100 := hB ▸ Y0e (S0u hr.lt)
 have sA : sR A ≤ 2100 := hA ▸ Y0e (Y0s hr.lt)
 have BA : B < A := by rw [hB, hA]; exact d0s.2 (by omega)
 have B0 : 0 ≤ B := hB ▸ T02 r
 have hp : rtP X n B := hB ▸ hr.le
 have hnp : ¬ rtP X n A := by
  rw [hA]; rcases hr.next with e | e
  · omega
  · exact e
 rw [← hB, ← hA]
 have b1 : rtD X B < 0 ∨ rtD X B * rtD X B < n := by
  by_cases c : rtD X B < 0
  · exact .inl c
  · refine .inr ?_
    rcases hp with g | g
    · exact absurd g c
    · have := ns (rtD X B) (Rat.not_lt.1 c); grind
 have a3 : ¬ rtD X A < 0 := fun g => hnp (.inl g)
 have a4 : n < rtD X A * rtD X A := Rat.not_le.1 fun g => hnp (.inr g)
 have a5 : 0 < rtD X A := by
  refine Rat.not_le.1 fun g => ?_
  have e : rtD X A = 0 := by grind
  rw [e] at a4; grind
 have o1 := P0u; have o2 := Q0u; have o3 := j0u; have o4 := K0v
 have dB : sR (rtD X B) ≤ 7000 := by
  have h1 := d05 B B; have h2 := d05 (B * B) 2; have h3 := i0h (B * B * 2) X
  unfold rtD; omega
 have dA : sR (rtD X A) ≤ 7000 := by
  have h1 := d05 A A; have h2 := d05 (A * A) 2; have h3 := i0h (A * A * 2) X
  unfold rtD; omega
 have sm : ∀ {p q : Rat}, sR p ≤ 2 ^ 20 → sR q ≤ 2 ^ 20 → 0 < q → u * p ≤ q := fun hp hq q0 => small (S := 2 ^ 20) (K := k) hp hq q0 (by omega) (Rat.le_of_lt u0) um
 have B4 : sR (4 * B + 3) ≤ 3000 := by have h1 := d05 4 B; have h2 := q08 (4 * B) 3; omega
 have A4 : sR (4 * A + 1) ≤ 3000 := by have h1 := d05 4 A; have h2 := q08 (4 * A) 1; omega
 refine m0q B0 BA b1 a5 a4 n0 u0 u1 ?_ (fun c => ?_) (fun c => ?_) ?_ a0 a1 a2 v1 lo0 l2 hh0 hh1
 · have := sm (p := 1) (q := A) (by omega) (by omega) (by grind)
   rw [Rat.mul_one] at this; exact this
 · exact sm (by omega) (by rw [O0u]; omega) (by grind)
 · refine sm ?_ ?_ ?_
   · have h1 := d05 2 (rtD X B); have h2 := q08 (2 * rtD X B) (4 * B + 3); have h3 := d05 (4 * B + 3) (2 * rtD X B + (4 * B + 3))
     omega
   · have h1 := d05 (rtD X B) (rtD X B); have h2 := i0h n (rtD X B * rtD X B); omega
   · rcases b1 with g | g
     · grind
     · grind
 · refine sm ?_ ?_ ?_
   · have h1 := d05 2 (rtD X A); have h2 := d05 (2 * rtD X A) (4 * A + 1); have h3 := q08 (2 * rtD X A * (4 * A + 1)) 1; omega
   · have h1 := d05 (rtD X A) (rtD X A); have h2 := i0h (rtD X A * rtD X A) n; omega
   · grind

theorem k0g {V : View} {x y : NumV} {X Y : Rat} (hx : QAt V x ⟨X, 0⟩) (hy : QAt V y ⟨Y, 0⟩) (sX : sR X ≤ 2100) (sY : sR Y ≤ 2100) (x0 : -topQ ≤ X) (x1 : X ≤ topQ) (y0 : -topQ ≤ Y) (y1 : Y ≤ topQ) :
 a00 prog y06 #[x.val, y.val] V fun v _ => ∃ (r : Nat) (up : Int), v = .tuple #[.float .f64 (k00 (r : Int)), .float .f64 (k00 up)] ∧ w0n X Y r up := by
 obtain ⟨n, hn⟩ : ∃ n, n = X * X + Y * Y := ⟨_, rfl⟩
 have xx := w00 X; have yy := w00 Y
 have xn : X * X ≤ n := by grind
 have n0 : 0 ≤ n := by grind
 have m1 := d05 X X; have m2 := d05 Y Y; have m3 := q08 (X * X) (Y * Y)
 have sn : sR n ≤ 10000 := by rw [hn]; omega
 have sn' : (⟨n, 0⟩ : Cq).sz ≤ 10000 := sn
 obtain ⟨r, hr⟩ := c07 (P := rtP X n) (H0d xn)
 have anti : ∀ p q, 0 ≤ p → p ≤ q → rtP X n q → rtP X n p := N0i X n
 have r1 : r + 1 < infR := c0t (hn ▸ hr) x0 x1 y0 y1
 have fin : ∀ {up : Int}, (up = if rtC X n (fkq (r : Int)) = 0 then (r : Int) else ((r + 1 : Nat) : Int)) → w0n X Y r up := fun h => ⟨by rw [← hn]; exact hr, by rw [← hn]; exact h⟩
 refine j0k x y V _ (fun _ x _ => ∃ k : Nat, x.t12 = k ∧ k ≤ 2 ^ 23 + 64) (fun _ x _ => (2 ^ 24 - x.t12).toNat) ?_
 refine (a0t hx (by omega)).mono fun v V1 l1 ⟨q1, hv, h1⟩ => ⟨q1, hv, (a0t (hy.le l1) (by omega)).mono fun v V2 l2 ⟨q2, hv, h2⟩ => ⟨q2, hv, ?_⟩⟩
 refine (P09 (S := 2 ^ 36) (h1.le l2) h2 (by omega) (by omega) (by omega)).mono fun v V3 l3 ⟨q3, hv, h3⟩ => ⟨q3, hv, ?_⟩
 rw [← hn] at h3
 refine (Q03 (n := 2) (by omega) (by omega)).mono fun v V4 l4 ⟨q4, hv, h4⟩ => ⟨q4, hv, ?_⟩
 replace h3 := h3.le l4
 have L4 := View.le_trans l1 (View.le_trans l2 (View.le_trans l3 l4))
 refine (w0a h3 n0 (by omega)).mono fun v V5 l5 ⟨q5, b, hv, k1, k2⟩ => ⟨q5, b, hv, fun hc => ?_, fun hc => ?_⟩
 · obtain ⟨z, hz1, z0, hz2⟩ := k1 hc
   have zs : sR z ≤ 10000 := g0n hz2 sn'
   refine (P09 (S := 10000) hz1 (hx.le (View.le_trans L4 l5)) zs (by omega) (by omega)).mono fun v V6 l6 ⟨q7, hv, h7⟩ => ⟨q7, hv, ?_⟩
   have a1 := q08 z X
   refine (i08 (S := 13000) h7 (h4.le (View.le_trans l5 l6)) (by omega) (by omega) (by omega)).mono fun v V7 l7 ⟨q8, e, hv, h8, s8⟩ => ⟨q8, e, hv, ?_⟩
   have zx : -X ≤ z := by
    by_cases c : 0 ≤ X
    · grind
    · exact m06 z0 (by grind)
   have zt : z ≤ 2 * topQ := by
    have t2 := g0f
    refine m06 (by grind) ?_
    have e1 := Rat.mul_nonneg (show 0 ≤ topQ - X by grind) (show 0 ≤ topQ + X by grind)
    have e2 := Rat.mul_nonneg (show 0 ≤ topQ - Y by grind) (show 0 ≤ topQ + Y by grind)
    have e3 := w00 topQ
    grind
   have tt : topQ * 2 ≤ topQ * topQ := Rat.mul_le_mul_of_nonneg_left g0f (by have := g0f; grind)
   have t2 := g0f
   refine (j0g h8 (by grind) (by omega) (by grind)).mono fun v V8 _ ⟨m, up, hv, hm, hu⟩ => ⟨_, _, hv, m, up, rfl, ?_⟩
   have hv2 : (z + X) / 2 * 2 = z + X := by grind
   have e := (hm.congr (fun q _ => (n0q z0 hz2 hv2 q).symm)).unique anti hr
   subst e
   refine fin ?_
   rw [hu]
   by_cases d : fkq (m : Int) * fkq (m : Int) = (z + X) / 2
   · rw [if_pos d, if_pos ((K0e z0 hz2 hv2 _).2 d)]
   · rw [if_neg d, if_neg (fun g => d ((K0e z0 hz2 hv2 _).1 g))]
 have ns := k2 hc
 refine ⟨⟨64, rfl, by omega⟩, ?_⟩
 rintro ⟨t⟩ V9 l9 ⟨k, rfl, hk⟩
 dsimp only
 have L9 := View.le_trans l5 l9
 replace h3 := h3.le L9; replace h4 := h4.le L9; replace hx := hx.le (View.le_trans L4 L9)
 have u0 := S0b k; have u1 := y0l k; have um := Q0b k
 have su := X0s (k := k)
 refine (S03 h3 n0 sn' (by omega) (by omega)).mono fun v V10 l10 ⟨q12, a, hv, h12, s12, a0, a1, a2⟩ => ⟨q12, hv, ?_⟩
 have s12 : sR a ≤ 10000 + 2 * k + 2 := s12
 refine (n07 (by omega)).mono fun v V11 l11 ⟨q13, hv, h13⟩ => ⟨q13, hv, ?_⟩
 obtain ⟨u, hu⟩ : ∃ u, u = m07 k := ⟨_, rfl⟩
 rw [← hu] at h13 a2 su u0 u1 um
 refine (P09 (S := 2 ^ 30) (h12.le l11) h13 (by omega) (by omega) (by omega)).mono fun v V12 l12 ⟨q14, hv, h14⟩ => ⟨q14, hv, ?_⟩
 have L12 := View.le_trans l11 l12
 refine (P09 (S := 2 ^ 30) (h12.le L12) (hx.le (View.le_trans l10 L12)) (by omega) (by omega) (by omega)).mono fun v V13 l13 ⟨q15, hv, h15⟩ => ⟨q15, hv, ?_⟩
 have L13 := View.le_trans l10 (View.le_trans L12 l13)
 have t1 := q08 a X; have t2 := q08 a u; have t3 := q08 (a + u) X
 refine (i08 (S := 3 * k + 20000) h15 (h4.le L13) (by omega) (by omega) (by omega)).mono fun v V14 l14 ⟨q16, e16, hv, h16, s16⟩ => ⟨q16, e16, hv, ?_⟩
 refine (P09 (S := 2 ^ 30) (h14.le (View.le_trans l13 l14)) (hx.le (View.le_trans L13 l14)) (by omega) (by omega) (by omega)).mono fun v V15 l15 ⟨q18, hv, h18⟩ => ⟨q18, hv, ?_⟩
 refine (i08 (S := 3 * k + 20000) h18 (h4.le (View.le_trans L13 (View.le_trans l14 l15))) (by omega) (by omega) (by omega)).mono fun v V16 l16 ⟨q19, e19, hv, h19, s19⟩ => ⟨q19, e19, hv, ?_⟩
 obtain ⟨w1, hw1⟩ : ∃ w, w = (a + X) / 2 := ⟨_, rfl⟩
 obtain ⟨w2, hw2⟩ : ∃ w, w = (a + u + X) / 2 := ⟨_, rfl⟩
 have e1 : w1 * 2 = a + X := by rw [hw1]; grind
 have e2 : w2 * 2 = a + u + X := by rw [hw2]; grind
 rw [← hw1] at h16 s16
 rw [← hw2] at h19 s19
 have w20 : 0 ≤ w2 := by
  have : -X ≤ a + u := by
   by_cases c : 0 ≤ X
   · grind
   · exact m06 (by grind) (by grind)
  grind
 -- from here on both ways go alike
 have tail : ∀ {V : View} {ql qh : NumV} {v lo : Rat}, (v * 2 = a + X ∨ (v = 0 ∧ a + X < 0)) → QAt V ql ⟨lo, 0⟩ → sR lo ≤ 2 ^ 30 → 0 ≤ lo → lo * lo ≤ v → v < (lo + u) * (lo + u) → QAt V qh ⟨w2, 0⟩ →
  a00 prog C0c #[qh.val, .int .i64 (k : Int)] V fun v V20 => ∃ r24 : NumV, v = r24.val ∧ a00 prog l0e #[.int .i64 (k : Int)] V20 fun v V21 => ∃ r25 : NumV, v = r25.val ∧ a00 prog g0c #[r24.val, r25.val] V21 fun v V22 => ∃ r26 : NumV, v = r26.val ∧
  a00 prog I03 #[ql.val] V22 fun v V23 => ∃ r27 : Nat, v = .float .f64 r27 ∧ a00 prog I03 #[r26.val] V23 fun v V24 => ∃ r28 : Nat, v = .float .f64 r28 ∧
  ((FloatKind.f64.format.order r27 r28 == some .eq) = true →
    a00 prog J03 #[ql.val] V24 fun v V25 => ∃ r29 : Nat, v = .float .f64 r29 ∧ a00 prog J03 #[r26.val] V25 fun v V26 => ∃ r30 : Nat, v = .float .f64 r30 ∧
     ((FloatKind.f64.format.order r29 r30 == some .eq) = true →
       a00 prog I03 #[ql.val] V26 fun v V27 => ∃ r31 : Nat, v = .float .f64 r31 ∧ a00 prog J03 #[ql.val] V27 fun v _ => ∃ r32 : Nat, v = .float .f64 r32 ∧
        ∃ (r : Nat) (up : Int), (.tuple #[.float .f64 r31, .float .f64 r32] : Value) = .tuple #[.float .f64 (k00 (r : Int)), .float .f64 (k00 up)] ∧ w0n X Y r up) ∧
     ((FloatKind.f64.format.order r29 r30 == some .eq) = false → (∃ k' : Nat, i64.wrap ((k : Int) + 64) = k' ∧ k' ≤ 2 ^ 23 + 64) ∧ (2 ^ 24 - i64.wrap ((k : Int) + 64)).toNat < (2 ^ 24 - (k : Int)).toNat)) ∧
  ((FloatKind.f64.format.order r27 r28 == some .eq) = false → (∃ k' : Nat, i64.wrap ((k : Int) + 64) = k' ∧ k' ≤ 2 ^ 23 + 64) ∧ (2 ^ 24 - i64.wrap ((k : Int) + 64)).toNat < (2 ^ 24 - (k : Int)).toNat) := by
  intro V ql qh v lo hv' hl sl lo0 lo1 lo2 hh
  refine (S03 hh w20 s19 (by omega) (by omega)).mono fun _ V20 l20 ⟨q24, h, hv, h24, s24, hh0, hh1, hh2⟩ => ⟨q24, hv, ?_⟩
  have s24 : sR h ≤ 4 * (3 * k + 20000) + 8 + 2 * k + 2 := s24
  refine (n07 (by omega)).mono fun _ V21 l21 ⟨q25, hv, h25⟩ => ⟨q25, hv, ?_⟩
  rw [← hu] at h25 hh2
  have t4 := q08 h u
  refine (P09 (S := 2 ^ 30) (h24.le l21) h25 (by omega) (by omega) (by omega)).mono fun _ V22 l22 ⟨q26, hv, h26⟩ => ⟨q26, hv, ?_⟩
  have pl : rtP X n lo := u0v xn a0 a1 hv' lo1
  have ph : ¬ rtP X n (h + u) := w0v (s := a + u) (by grind) a2 e2 hh2
  refine b0t (F := fun v => ∃ (r : Nat) (up : Int), v = .tuple #[.float .f64 (k00 (r : Int)), .float .f64 (k00 up)] ∧ w0n X Y r up) (hl.le (View.le_trans l20 (View.le_trans l21 l22))) h26 sl (by omega) (fun g => ?_) (fun hc hd => ?_)
  · have hk2 : k < 2 ^ 23 := by
      refine Nat.not_le.1 fun c => g ?_
      obtain ⟨c1, c2⟩ := x0n hr r1 sX sn n0 ns u0 u1 um c a0 a1 a2 (v := v) (by rcases hv' with e | ⟨e, f⟩ <;> grind) lo0 lo2 hh0 (by grind)
      refine g0s r1 c1 ?_ c2
      refine Rat.not_lt.1 fun g => ph (anti _ _ (by grind) (Rat.le_of_lt g) pl)
    have w : i64.wrap ((k : Int) + 64) = ((k + 64 : Nat) : Int) := by rw [i64w (by omega) (by omega)]; omega
    rw [w]
    exact ⟨⟨k + 64, rfl, by omega⟩, j0h (by omega)⟩
  · obtain ⟨r', t1, t2, t3, q, t4, t5⟩ := e0s anti lo0 (by grind) pl ph hc hd
    have := hr.unique anti t1
    subst this
    refine ⟨r, H00 lo, by rw [t2], fin ?_⟩
    rw [if_neg (fun g => p0v (T02 r) t4 g t5), t3]
 refine (b0g (h16.le (View.le_trans l15 l16))).mono fun v V17 l17 hv => ⟨_, hv, fun hs => ?_, fun hs => ?_⟩
 · have hs : w1 < 0 := cmp_neg.1 (of_decide_eq_true hs)
   refine (Q03 (n := 0) (by omega) (by omega)).mono fun v V18 l18 ⟨q22, hv, h22⟩ => ⟨q22, hv, ?_⟩
   have h22 : QAt V18 q22 ⟨0, 0⟩ := h22
   refine (S03 (S := 4) h22 (by grind) (Nat.le_trans b04 (by omega)) (by omega) (by omega)).mono fun v V19 l19 ⟨q23, lo, hv, h23, s23, lo0, lo1, lo2⟩ => ⟨q23, hv, ?_⟩
   have s23 : sR lo ≤ 4 + 2 * k + 2 := s23
   rw [← hu] at lo2
   exact tail (v := 0) (.inr ⟨rfl, by grind⟩) h23 (by omega) lo0 lo1 lo2 (h19.le (View.le_trans l17 (View.le_trans l18 l19)))
 · have hs : ¬ w1 < 0 := fun g => by have := cmp_neg.2 g; exact absurd this (of_decide_eq_false hs)
   refine (S03 (h16.le (View.le_trans l15 (View.le_trans l16 l17))) (Rat.not_lt.1 hs) s16 (by omega) (by omega)).mono fun v V29 l29 ⟨q33, lo, hv, h33, s33, lo0, lo1, lo2⟩ => ⟨q33, hv, ?_⟩
   have s33 : sR lo ≤ 4 * (3 * k + 20000) + 8 + 2 * k + 2 := s33
   rw [← hu] at lo2
   exact tail (v := w1) (.inl e1) h33 (by omega) lo0 lo1 lo2 (h19.le (View.le_trans l17 l29))

theorem w0n.low {e f : Eb} (he : e.inf = 0) (hf : f.inf = 0) {r : Nat} {up : Int} (h : w0n e.x f.x r up) : i00 e f false r ∧ ∃ l : Nat, up = l ∧ i00 e f true l := by
 obtain ⟨h1, h2⟩ := h
 have c1 : ¬ (0 < e.inf ∨ f.inf ≠ 0) := by omega
 have c2 : ¬ e.inf < 0 := by omega
 refine ⟨?_, ?_⟩
 · unfold i00; rw [if_neg c1, if_neg c2]
   exact ⟨r, h1, by rw [if_neg (fun g => absurd g.1 (by decide))]⟩
 · by_cases d : rtC e.x (e.x * e.x + f.x * f.x) (fkq (r : Int)) = 0
   · rw [if_pos d] at h2
     refine ⟨r, h2, ?_⟩
     unfold i00; rw [if_neg c1, if_neg c2]
     exact ⟨r, h1, by rw [if_neg (fun g => g.2 d)]⟩
   · rw [if_neg d] at h2
     refine ⟨r + 1, h2, ?_⟩
     unfold i00; rw [if_neg c1, if_neg c2]
     exact ⟨r, h1, by rw [if_pos ⟨rfl, d⟩]⟩
def Mild (e : Eb) : Prop := sR e.x ≤ 2100 ∧ -topQ ≤ e.x ∧ e.x ≤ topQ
theorem Q05 {k : Int} (hk : inK k) (h : (endE k).inf = 0) : Mild (endE k) := by
 have i1 : 1 ≤ infR := by decide
 have e : endE k = ⟨0, fkq k⟩ := by
  unfold endE at h ⊢
  by_cases c : k = (infR : Int)
  · rw [if_pos c] at h; exact absurd h (by decide)
  · rw [if_neg c] at h ⊢
    by_cases d : k = -(infR : Int)
    · rw [if_pos d] at h; exact absurd h (by decide)
    · rw [if_neg d]
 have n1 : k ≠ (infR : Int) := by
  intro g; rw [g] at h; unfold endE at h; rw [if_pos rfl] at h; exact absurd h (by decide)
 have n2 : k ≠ -(infR : Int) := by
  intro g; rw [g, T0t] at h; exact absurd h (by decide)
 unfold inK at hk
 refine ⟨by rw [e]; exact Y0e ⟨by omega, by omega⟩, ?_, ?_⟩
 · rw [e]; show -topQ ≤ fkq k
   unfold topQ; rw [← a0s]; exact Q0c (by omega)
 · rw [e]; show fkq k ≤ topQ
   unfold topQ; exact Q0c (by omega)
theorem E0o {e : Eb} (h : Mild e) : Mild e.neg := by
 obtain ⟨a, b, c⟩ := h
 exact ⟨by show sR (-e.x) ≤ _; rw [O0u]; exact a, by show -topQ ≤ -e.x; grind, by show -e.x ≤ topQ; grind⟩
theorem m0j {V : View} {x y : NumV} {e f : Eb} (hx : QAt V x e.num) (hy : QAt V y f.num) (he : e.inf = 0) (hf : f.inf = 0) (me : Mild e) (mf : Mild f) :
 a00 prog y06 #[x.val, y.val] V fun v _ => ∃ (r : Nat) (up : Nat), v = .tuple #[.float .f64 (k00 (r : Int)), .float .f64 (k00 (up : Int))] ∧ i00 e f false r ∧ i00 e f true up :=
 (k0g (X := e.x) (Y := f.x) hx hy me.1 mf.1 me.2.1 me.2.2 mf.2.1 mf.2.2).mono fun v V1 _ ⟨r, up, hv, hq⟩ => by
   obtain ⟨a, l, b, c⟩ := w0n.low he hf hq
   exact ⟨r, l, by rw [hv, b], a, c⟩
abbrev M0v (r3 r6 : BdV) (top a b c : Nat) (V : View) (R : Value → View → Prop) : Prop :=
 (((r3.inf : Int) == 0) = true → (((r6.inf : Int) == 0) = true → a00 prog p09 #[r3.x.val] V fun v V11 => ∃ r14 : NumV, v = r14.val ∧ a00 prog y06 #[r14.val, r6.x.val] V11 fun v V12 => ∃ (r15 : Nat) (r16 : Nat), v = .tuple #[.float .f64 r15, .float .f64 r16] ∧ R ((BoxV.mk (SpV.mk a b) (SpV.mk c r16)).val) V12) ∧
   (((r6.inf : Int) == 0) = false → R ((BoxV.mk (SpV.mk a b) (SpV.mk c top)).val) V)) ∧ (((r3.inf : Int) == 0) = false → R ((BoxV.mk (SpV.mk a b) (SpV.mk c top)).val) V)
abbrev MidC (r3 r4 r5 r6 : BdV) (top a b : Nat) (V : View) (R : Value → View → Prop) : Prop :=
 (((r4.inf : Int) == 0) = true → a00 prog p09 #[r4.x.val] V fun v V9 => ∃ r11 : NumV, v = r11.val ∧ a00 prog y06 #[r11.val, r5.x.val] V9 fun v V10 => ∃ (r12 : Nat) (r13 : Nat), v = .tuple #[.float .f64 r12, .float .f64 r13] ∧ M0v r3 r6 top a b r12 V10 R) ∧
 (((r4.inf : Int) == 0) = false → M0v r3 r6 top a b 0 V R)
abbrev Y0w (r3 r4 r5 r6 : BdV) (t1 top a : Nat) (V : View) (R : Value → View → Prop) : Prop :=
 (((r4.inf : Int) == 0) = true → (((r6.inf : Int) == 0) = true → a00 prog y06 #[r4.x.val, r6.x.val] V fun v V8 => ∃ (r9 : Nat) (r10 : Nat), v = .tuple #[.float .f64 r9, .float .f64 r10] ∧ MidC r3 r4 r5 r6 top a r10 V8 R) ∧
   (((r6.inf : Int) == 0) = false → MidC r3 r4 r5 r6 top a t1 V R)) ∧ (((r4.inf : Int) == 0) = false → MidC r3 r4 r5 r6 top a t1 V R)
theorem G06 {V : View} {x y : Sk} (hx : x.ok) (px : x.proper) (hy : y.ok) (py : y.proper) (h0 : 0 ≤ y.lo) : a00 prog B08 #[x.v.val, y.v.val] V fun v _ => ∃ t : Bk, v = t.v.val ∧ UpB x y t := by
 have i := F0u px
 have f := y0v py h0
 have z0 : (0 : Nat) = k00 (((0 : Nat)) : Int) := (J02 0).symm
 have zi : infR = k00 (infR : Int) := (J02 infR).symm
 refine X0h x.v y.v V _ (a09.mono fun v V1 l1 hv => ⟨_, hv, a09.mono fun v V2 l2 hv => ⟨_, hv, ?_⟩⟩)
 refine (o03 hx.lo).mono fun v V3 l3 ⟨r3, hv, h3⟩ => ⟨r3, hv, (o03 hx.hi).mono fun v V4 l4 ⟨r4, hv, h4⟩ => ⟨r4, hv, ?_⟩⟩
 refine (o03 hy.lo).mono fun v V5 l5 ⟨r5, hv, h5⟩ => ⟨r5, hv, (o03 hy.hi).mono fun v V6 l6 ⟨r6, hv, h6⟩ => ⟨r6, hv, ?_⟩⟩
 replace h3 := h3.le (View.le_trans l4 (View.le_trans l5 l6)); replace h4 := h4.le (View.le_trans l5 l6); replace h5 := h5.le l6
 have i3 := h3.inf; have i4 := h4.inf; have i5 := h5.inf; have i6 := h6.inf
 have yes : ∀ {r : BdV} {e : Eb}, r.inf = e.inf → ((r.inf : Int) == 0) = true → e.inf = 0 := fun h g => by rw [← h]; simpa using g
 have not : ∀ {r : BdV} {e : Eb}, r.inf = e.inf → ((r.inf : Int) == 0) = false → e.inf ≠ 0 := fun h g => by rw [← h]; simpa using g
 have neg : ∀ {V : View} {r : BdV} {e : Eb}, BqAt V r e → a00 prog p09 #[r.x.val] V fun v V' => ∃ q : NumV, v = q.val ∧ QAt V' q e.neg.num := by
  intro V r e h
  refine (e08 h.num).mono fun v V' _ ⟨q, hv, hq⟩ => ⟨q, hv, ?_⟩
  have : -e.num = e.neg.num := Z0i e.x
  rw [← this]; exact hq
 have last : ∀ {V : View} {k1 k2 k3 : Nat}, View.le V6 V → i00 (endE x.lo) (endE y.lo) false k1 → i00 (endE x.hi) (endE y.hi) true k2 → i00 (endE x.hi).neg (endE y.lo) false k3 →
  M0v r3 r6 infR (k00 (k1 : Int)) (k00 (k2 : Int)) (k00 (k3 : Int)) V fun v _ => ∃ t : Bk, v = t.v.val ∧ UpB x y t := by
  intro V k1 k2 k3 l a b c
  have inf : (0 < (endE x.lo).neg.inf ∨ (endE y.hi).inf ≠ 0) → ∃ t : Bk, (BoxV.mk (SpV.mk (k00 (k1 : Int)) (k00 (k2 : Int))) (SpV.mk (k00 (k3 : Int)) infR)).val = t.v.val ∧ UpB x y t := by
   intro g
   refine ⟨⟨⟨(k1 : Int), (k2 : Int)⟩, ⟨(k3 : Int), (infR : Int)⟩⟩, by unfold Bk.v Sk.v; rw [← zi], k1, k2, k3, infR, rfl, a, b, c, ?_⟩
   unfold i00; rw [if_pos g]
  refine ⟨fun g3 => ⟨fun g6 => ?_, fun g6 => inf (.inr (not i6 g6))⟩, fun g3 => inf (.inl ?_)⟩
  · have e3 := yes i3 g3; have e6 := yes i6 g6
    refine (neg (h3.le l)).mono fun v V11 l11 ⟨q, hv, hq⟩ => ⟨q, hv, ?_⟩
    refine (m0j (e := (endE x.lo).neg) (f := endE y.hi) hq (h6.num.le (View.le_trans l l11)) (by show -(endE x.lo).inf = 0; omega) e6 (E0o (Q05 hx.lo e3)) (Q05 hy.hi e6)).mono fun v V12 _ ⟨_, up, hv, _, hu⟩ => ⟨_, _, hv, ?_⟩
    exact ⟨⟨⟨(k1 : Int), (k2 : Int)⟩, ⟨(k3 : Int), (up : Int)⟩⟩, rfl, k1, k2, k3, up, rfl, a, b, c, hu⟩
  · have := not i3 g3; show 0 < -(endE x.lo).inf; omega
 have mid : ∀ {V : View} {k1 k2 : Nat}, View.le V6 V → i00 (endE x.lo) (endE y.lo) false k1 → i00 (endE x.hi) (endE y.hi) true k2 →
  MidC r3 r4 r5 r6 infR (k00 (k1 : Int)) (k00 (k2 : Int)) V fun v _ => ∃ t : Bk, v = t.v.val ∧ UpB x y t := by
  intro V k1 k2 l a b
  refine ⟨fun g4 => ?_, fun g4 => ?_⟩
  · have e4 := yes i4 g4
    refine (neg (h4.le l)).mono fun v V9 l9 ⟨q, hv, hq⟩ => ⟨q, hv, ?_⟩
    refine (m0j (e := (endE x.hi).neg) (f := endE y.lo) hq (h5.num.le (View.le_trans l l9)) (by show -(endE x.hi).inf = 0; omega) f.1 (E0o (Q05 hx.hi e4)) (Q05 hy.lo f.1)).mono fun v V10 l10 ⟨k3, up, hv, hl, _⟩ => ⟨_, _, hv, ?_⟩
    exact last (View.le_trans l (View.le_trans l9 l10)) a b hl
  · have e4 := not i4 g4
    rw [z0]
    refine last l a b ?_
    unfold i00
    rw [if_neg (by have := f.1; have := i.2; omega), if_pos]
    have : (endE x.hi).neg.inf = -(endE x.hi).inf := rfl
    have := i.2; omega
 have high : ∀ {V : View} {k1 : Nat}, View.le V6 V → i00 (endE x.lo) (endE y.lo) false k1 →
  Y0w r3 r4 r5 r6 infR infR (k00 (k1 : Int)) V fun v _ => ∃ t : Bk, v = t.v.val ∧ UpB x y t := by
  intro V k1 l a
  refine ⟨fun g4 => ⟨fun g6 => ?_, fun g6 => ?_⟩, fun g4 => ?_⟩
  · have e4 := yes i4 g4; have e6 := yes i6 g6
    refine (m0j (e := endE x.hi) (f := endE y.hi) (h4.num.le l) (h6.num.le l) e4 e6 (Q05 hx.hi e4) (Q05 hy.hi e6)).mono fun v V8 l8 ⟨_, up, hv, _, hu⟩ => ⟨_, _, hv, ?_⟩
    exact mid (View.le_trans l l8) a hu
  · have := mid (k2 := infR) l a (by unfold i00; rw [if_pos (.inr (not i6 g6))])
    rw [← zi] at this; exact this
  · have hp : 0 < (endE x.hi).inf := by
      have a1 := not i4 g4
      have : (endE x.hi).neg.inf = -(endE x.hi).inf := rfl
      have := i.2; omega
    have := mid (k2 := infR) l a (by unfold i00; rw [if_pos (.inl hp)])
    rw [← zi] at this; exact this
 refine ⟨fun g3 => ?_, fun g3 => ?_⟩
 · have e3 := yes i3 g3
   refine (m0j (e := endE x.lo) (f := endE y.lo) h3.num h5.num e3 f.1 (Q05 hx.lo e3) (Q05 hy.lo f.1)).mono fun v V7 l7 ⟨k1, up, hv, hl, _⟩ => ⟨_, _, hv, ?_⟩
   exact high l7 hl
 · have e3 := not i3 g3
   have := high (k1 := 0) (View.le_refl V6) (by
    unfold i00
    rw [if_neg (by have := f.1; have := i.1; omega), if_pos (by have := i.1; omega)])
   rw [← z0] at this; exact this
theorem T0b {V : View} {b : Bk} (h : b.ok) (p : b.proper) : a00 prog j0e #[b.v.val] V fun v _ => ∃ t : Bk, v = t.v.val ∧ J0e b t := by
 have g0 : ((FloatKind.f64.format.order (k00 b.im.lo) 0 == some .gt) || (FloatKind.f64.format.order (k00 b.im.lo) 0 == some .eq)) = decide (0 ≤ b.im.lo) := geK h.im.lo i07
 have l0 := lt0K h.im.hi
 obtain ⟨q1, q2, q3⟩ := p.2
 have z0 : (0 : Nat) = k00 0 := by decide
 have nf : ∀ {k : Int}, inK k → okW (Op.negFloat .f64 (k00 k)) ∧ key (Op.negFloat .f64 (k00 k)) = -k := fun hk => by
  have := Q08 (okK hk); rw [keyK hk] at this; exact this
 refine n0d b.v V _ ⟨fun hc => ?_, fun hc => ?_⟩
 · have hc : 0 ≤ b.im.lo := of_decide_eq_true (g0 ▸ hc)
   exact (G06 h.re p.1 h.im p.2 hc).mono fun v V1 _ ⟨t, hv, ht⟩ => ⟨_, hv, t, rfl, z0v h p hc ht⟩
 have hc : ¬ 0 ≤ b.im.lo := of_decide_eq_false (g0 ▸ hc)
 have n1 := nf h.im.hi
 have n2 := nf h.im.lo
 have hk1 := T08 h.im.hi
 have hk2 := T08 h.im.lo
 refine (g08 n1.1).mono fun v V2 l2 hv => ⟨_, hv, ?_⟩
 rw [n1.2]
 refine ⟨by rw [z0]; exact o0c i07 hk1, ?_⟩
 have em : fmax .f64 0 (k00 (-b.im.hi)) = k00 (max 0 (-b.im.hi)) := by
  have := U0n i07 hk1; rw [← z0] at this; exact this
 rw [em]
 have negw : Op.negFloat .f64 (k00 b.im.lo) = k00 (-b.im.lo) := by
  have hi : infR = 9218868437227405312 := rfl
  have hin := h.im.lo; unfold inK at hin
  obtain ⟨r, hr⟩ : ∃ r : Nat, b.im.lo = -(r : Int) := ⟨(-b.im.lo).toNat, by omega⟩
  rw [hr, Int.neg_neg, J02, S0e (by omega), Z04 (by omega), if_neg (by omega)]
  omega
 obtain ⟨y, hy⟩ : ∃ y : Sk, y = ⟨max 0 (-b.im.hi), -b.im.lo⟩ := ⟨_, rfl⟩
 have yok : y.ok := by rw [hy]; exact ⟨J0w i07 hk1, hk2⟩
 have i0 : (0 : Int) < infR := by decide
 have ypr : y.proper := by
  rw [hy]; refine ⟨?_, ?_, ?_⟩
  · show max 0 (-b.im.hi) ≤ -b.im.lo; omega
  · show max 0 (-b.im.hi) ≠ infR; omega
  · show -b.im.lo ≠ -(infR : Int); omega
 have y0 : 0 ≤ y.lo := by rw [hy]; show 0 ≤ max 0 (-b.im.hi); omega
 have ev : SpV.mk (k00 (max 0 (-b.im.hi))) (Op.negFloat .f64 (k00 b.im.lo)) = y.v := by rw [hy, negw]; rfl
 have main : a00 prog B08 #[b.re.v.val, y.v.val] V2 fun v _ => ∃ t : Bk, v = t.v.val ∧ UpB b.re y t := G06 h.re p.1 yok ypr y0
 rw [← ev] at main
 refine main.mono fun v V3 l3 ⟨u, hv, hu⟩ => ⟨_, hv, ?_⟩
 obtain ⟨uok, upr⟩ := hu.proper h.re p.1 yok ypr y0
 refine (O0b uok upr).mono fun v V4 l4 hv => ⟨_, hv, fun hd => ?_, fun hd => ?_⟩
 · have hd : b.im.hi < 0 := of_decide_eq_true (l0 ▸ hd)
   refine ⟨_, rfl, Y0t h p hd ?_⟩
   rw [show max 0 (-b.im.hi) = -b.im.hi by omega] at hy
   rw [← hy]; exact hu
 · have hd : ¬ b.im.hi < 0 := of_decide_eq_false (l0 ▸ hd)
   have wok : (Sk.mk 0 b.im.hi).ok := ⟨i07, h.im.hi⟩
   have wpr : (Sk.mk 0 b.im.hi).proper := ⟨by show (0 : Int) ≤ b.im.hi; omega, by show (0 : Int) ≠ infR; omega, q3⟩
   have ew : SpV.mk 0 (k00 b.im.hi) = (Sk.mk 0 b.im.hi).v := by unfold Sk.v; rw [← z0]
   have main2 : a00 prog B08 #[b.re.v.val, (Sk.mk 0 b.im.hi).v.val] V4 fun v _ => ∃ t : Bk, v = t.v.val ∧ UpB b.re (Sk.mk 0 b.im.hi) t := G06 h.re p.1 wok wpr (Int.le_refl _)
   rw [← ew] at main2
   refine main2.mono fun v V5 l5 ⟨w, hv, hw⟩ => ⟨_, hv, ?_⟩
   obtain ⟨wok', _⟩ := hw.proper h.re p.1 wok wpr (Int.le_refl _)
   refine (P0b (z0q uok) wok').mono fun v V6 _ hv => ⟨_, hv, _, rfl, o0s h p (by omega) (by omega) ?_ hw⟩
   rw [show max 0 (-b.im.hi) = 0 by omega] at hy
   rw [← hy]; exact hu
theorem n0j {V : View} {p : y08} (h1 : p.u64) : a00 prog f0e #[p.val] V fun v _ => v = .bool true := by
 refine m0d p V _ (u0q.mono fun v V1 _ hv => ⟨_, hv, fun h => absurd h (by decide), fun _ => ?_⟩)
 refine (Q0s h1).mono fun v V2 _ ⟨b, kb, hb, pb, hv⟩ => ⟨_, _, _, hv, fun _ => rfl, fun g1 => ?_⟩
 have pb := pb (by simpa using g1)
 refine (l0j hb).mono fun v V3 _ ⟨t, hv, ht⟩ => ⟨_, _, hv, fun _ => ?_, fun g => absurd g (by decide)⟩
 refine (T0b hb pb).mono fun v V4 _ ⟨t', hv, ht'⟩ => ⟨_, hv, ?_⟩
 rw [← ht.unique ht']
 exact (H0v _).mono fun v V5 _ hv => ⟨_, hv, by rw []⟩
