/- Part of the proof; it has the parts CBx1 CFl5 CBx2 CBx3 CBx4 CBx5 CRb4 CRb5 CRb6 CRb7. -/
import Derived.Test.YtkibfmnkkiakoaaGreatPartD
import Derived.Laws.StructEq
namespace Go.Proofs.YtkibfmnkkiakoaaGreat
open Go Go.Vc Go.Proofs
theorem Cq.num_mul (a b : Rat) : (⟨a, 0⟩ : Cq) * ⟨b, 0⟩ = ⟨a * b, 0⟩ := Cq.ext' (by rw [Cq.mul_re]; grind) (by rw [Cq.mul_im]; grind)
theorem Cq.num_add (a b : Rat) : (⟨a, 0⟩ : Cq) + ⟨b, 0⟩ = ⟨a + b, 0⟩ := Cq.ext' (by rw [Cq.add_re]) (by rw [Cq.add_im]; grind)
theorem Cq.num_neg (a : Rat) : -(⟨a, 0⟩ : Cq) = ⟨-a, 0⟩ := Cq.ext' (by rw [Cq.neg_re]) (by rw [Cq.neg_im]; grind)
theorem fq_key (x : Nat) : fq x = fkq (key x) := rfl
theorem fq_zero : fq 0 = 0 := by
 unfold fq
 have : kz (key 0) = 0 := by decide
 rw [this]; rw [Rat.div_def]; exact Rat.zero_mul _
structure BdAt (V : View) (b : BdV) (e : Eb) : Prop where
 inf : b.inf = e.inf
 num : NumAt V b.x e.num
 ok : e.ok
theorem BdAt.le {V V' : View} {b : BdV} {e : Eb} (hle : V.le V') (h : BdAt V b e) : BdAt V' b e := ⟨h.inf, h.num.le hle, h.ok⟩
theorem BdAt.range {V : View} {b : BdV} {e : Eb} (h : BdAt V b e) : e.inf = 0 ∨ e.inf = 1 ∨ e.inf = -1 := by
 rcases h.ok with h | ⟨_, h⟩
 · exact .inl h
 · exact .inr h
theorem BdAt.zero (V : View) : BdAt V (BdV.mk 0 (NumV.mk (WhV.mk false (Sl.mk none 0 0)) (WhV.mk false (Sl.mk none 0 0)) (Sl.mk none 0 0))) (Eb.fin 0) := ⟨rfl, NumAt.zero V, .inl rfl⟩
theorem BdAt.infty (V : View) {i : Int} (h : i = 1 ∨ i = -1) : BdAt V (BdV.mk i (NumV.mk (WhV.mk false (Sl.mk none 0 0)) (WhV.mk false (Sl.mk none 0 0)) (Sl.mk none 0 0))) ⟨i, 0⟩ := ⟨rfl, NumAt.zero V, .inr ⟨rfl, h⟩⟩
theorem BdAt.signs (V : View) {i : Int} (h : (⟨i, 0⟩ : Eb).ok) : BdAt V (BdV.mk i (NumV.mk (WhV.mk false (Sl.mk none 0 0)) (WhV.mk false (Sl.mk none 0 0)) (Sl.mk none 0 0))) ⟨i, 0⟩ := ⟨rfl, NumAt.zero V, h⟩
theorem rm_lt_top {r : Nat} (h : r ≤ infR) : rm r < 2 ^ 2099 := by
 have h1 : rm r ≤ rm infR := rm_le_iff.2 h
 obtain ⟨e, he⟩ : ∃ e, e = 2046 := ⟨_, rfl⟩
 rw [rm_infE he] at h1
 exact Nat.lt_of_le_of_lt h1 (pow_lt_of (a := 52 + e) (b := 2099) (by omega))
theorem zero_over (D : Nat) : (0 : Rat) = ((0 : Int) : Rat) / (D : Rat) := by simp [Rat.div_def]
theorem fkq_sz {k : Int} (h : inK k) : (⟨fkq k, 0⟩ : Cq).sz ≤ 2100 := by
 have R : Rep ⟨fkq k, 0⟩ (kz k) 0 (2 ^ 1074) := ⟨pow1074, rfl, zero_over _⟩
 have hk : (kz k).natAbs = rm k.natAbs := by unfold kz; split <;> omega
 refine R.sz ?_ (by simp [bl_zero]) ?_
 · rw [hk]
   have h2 : k.natAbs ≤ infR := by unfold inK at h; omega
   have := bl_le_of_lt (rm_lt_top h2)
   omega
 · have := bl_two_pow 1074; omega
theorem endE_sz {k : Int} (h : inK k) : (endE k).num.sz ≤ 2100 := by
 have z : (Cq.zero).sz ≤ 2100 := Nat.le_trans Cq.sz_zero (by omega)
 unfold endE Eb.num
 split
 · exact z
 · split
   · exact z
   · exact fkq_sz h
theorem exact_spec1 {V : View} {x : Nat} (h : finW x) : CallV Tryz.prog n_box_exact #[.float .f64 x] V fun v V' => ∃ r : NumV, v = r.val ∧ NumAt V' r ⟨fkq (key x), 0⟩ := by
 refine box_exact_vc x V _ ((Complex_spec (c := CxV.mk x 0) h (show finW 0 from ⟨by decide, by decide⟩)).mono fun v V1 _ ⟨r, hv, hr⟩ => ⟨r, 0, hv, r, rfl, ?_⟩)
 have hr : NumAt V1 r ⟨fq x, fq 0⟩ := hr
 rw [fq_zero, fq_key] at hr; exact hr
theorem end_spec {V : View} {x : Nat} (h : okW x) : CallV Tryz.prog n_box_end #[.float .f64 x] V fun v V' => ∃ b : BdV, v = b.val ∧ BdAt V' b (endE (key x)) := by
 have hk := key_le h
 refine box_end_vc x V _ ((IsInf_up h.1).mono fun v V1 _ hv => ⟨_, hv, fun hc => ?_, fun hc => ?_⟩)
 · have hc : key x = (infR : Int) := by simp only [decide_eq_true_eq] at hc; exact hc.2
   refine ⟨_, rfl, ?_⟩
   unfold endE; rw [if_pos hc]; exact .infty V1 (.inl rfl)
 have hc : key x ≠ (infR : Int) := by simp only [decide_eq_false_iff_not] at hc; exact fun e => hc ⟨h, e⟩
 refine (IsInf_down h.1).mono fun v V2 _ hv => ⟨_, hv, fun hd => ?_, fun hd => ?_⟩
 · have hd : key x = -(infR : Int) := by simp only [decide_eq_true_eq] at hd; exact hd.2
   refine ⟨_, rfl, ?_⟩
   unfold endE; rw [if_neg hc, if_pos hd]; exact .infty V2 (.inr rfl)
 have hd : key x ≠ -(infR : Int) := by simp only [decide_eq_false_iff_not] at hd; exact fun e => hd ⟨h, e⟩
 have hf : finW x := by
  refine ⟨h.1, ?_⟩
  have a := key_rung h.1
  have : (key x).natAbs < infR := by omega
  omega
 refine (exact_spec1 hf).mono fun v V3 _ ⟨r, hv, hr⟩ => ⟨r, hv, _, rfl, ?_⟩
 unfold endE; rw [if_neg hc, if_neg hd]; exact ⟨rfl, hr, .inl rfl⟩
theorem Compare_spec {V : View} (a b : Int) : CallV Tryz.prog n_cmp_Compare_int_ #[.int .i64 a, .int .i64 b] V fun v _ => v = .int .i64 (cmpZ a b) := by
 have nan : ∀ {V : View} (a : Int), CallV Tryz.prog n_cmp_isNaN_int_ #[.int .i64 a] V fun v _ => v = .bool false := fun a => cmp_isNaN_int__vc a _ _ (by simp)
 refine cmp_Compare_int__vc a b V _ ((nan a).mono fun v V1 _ hv => ⟨_, hv, (nan b).mono fun v V2 _ hv => ⟨_, hv, fun h => absurd h (by simp), fun _ => ⟨fun h => absurd h (by simp), fun _ => ⟨fun h => ?_, fun h => ⟨fun h' => ?_, fun h' => ?_⟩⟩⟩⟩⟩)
 · rw [cmpZ_lt (by simpa using h)]
 · rw [cmpZ_gt (by simpa using h')]
 · simp only [decide_eq_false_iff_not] at h h'
   rw [cmpZ_eq (by omega)]
theorem cmp_num (x y : Rat) : (⟨x, 0⟩ : Cq).cmp ⟨y, 0⟩ = cmpR x y := by
 unfold Cq.cmp
 dsimp only
 by_cases c : cmpR x y = 0
 · rw [c]; rw [if_neg (by simp)]; unfold cmpR; rw [if_neg (by grind), if_pos rfl]
 · rw [if_pos c]
theorem bound_cmp_spec {V : View} {a b : BdV} {e f : Eb} (ha : BdAt V a e) (hb : BdAt V b f) (hz : e.num.sz ≤ 2 ^ 40) (hw : f.num.sz ≤ 2 ^ 40) :
 CallV Tryz.prog n_bound_cmp #[a.val, b.val] V fun v _ => v = .int .i64 (e.cmp f) := by
 have ia := ha.inf
 have ib := hb.inf
 refine bound_cmp_vc a b V _ ⟨fun h => ?_, fun h => ⟨fun h' => ?_, fun h' => ?_⟩⟩
 · have h : e.inf ≠ 0 := by rw [← ia]; simpa using h
   refine (Compare_spec a.inf b.inf).mono fun v V1 _ hv => ⟨_, hv, ?_⟩
   unfold Eb.cmp; rw [if_pos (.inl h), ia, ib]
 · have h' : f.inf ≠ 0 := by rw [← ib]; simpa using h'
   refine (Compare_spec a.inf b.inf).mono fun v V1 _ hv => ⟨_, hv, ?_⟩
   unfold Eb.cmp; rw [if_pos (.inr h'), ia, ib]
 · have h : e.inf = 0 := by rw [← ia]; simpa using h
   have h' : f.inf = 0 := by rw [← ib]; simpa using h'
   refine (Num_Cmp_spec ha.num hb.num hz hw).mono fun v V1 _ hv => ⟨_, hv, ?_⟩
   unfold Eb.cmp; rw [if_neg (by rw [h, h']; simp)]
   exact congrArg _ (cmp_num e.x f.x)
theorem zero_sz : (Eb.fin 0).num.sz ≤ 1 := Cq.sz_zero
theorem bound_sign_spec {V : View} {a : BdV} {e : Eb} (ha : BdAt V a e) (hz : e.num.sz ≤ 2 ^ 40) : CallV Tryz.prog n_bound_sign #[a.val] V fun v _ => v = .int .i64 e.sign :=
 bound_sign_vc a V _ ((bound_cmp_spec ha (BdAt.zero V) hz (Nat.le_trans zero_sz (by decide))).mono fun v V1 _ hv => ⟨_, hv, rfl⟩)
theorem bound_neg_spec {V : View} {a : BdV} {e : Eb} (ha : BdAt V a e) : CallV Tryz.prog n_bound_neg #[a.val] V fun v V' => ∃ b : BdV, v = b.val ∧ BdAt V' b e.neg := by
 refine bound_neg_vc a V _ ((Num_Neg_spec ha.num).mono fun v V1 _ ⟨r, hv, hr⟩ => ⟨r, hv, _, rfl, ?_⟩)
 have ia := ha.inf
 have hr' := ha.range
 have e1 : IntKind.i64.wrap (0 - a.inf) = -e.inf := by rw [i64w (by omega) (by omega)]; omega
 refine ⟨e1, ?_, Eb.neg_ok ha.ok⟩
 have : -e.num = e.neg.num := Cq.num_neg e.x
 rw [← this]; exact hr
theorem bound_add_spec {V : View} {a b : BdV} {e f : Eb} (ha : BdAt V a e) (hb : BdAt V b f) (hz : e.num.sz ≤ 2 ^ 40) (hw : f.num.sz ≤ 2 ^ 40) :
 CallV Tryz.prog n_bound_add #[a.val, b.val] V fun v V' => ∃ c : BdV, v = c.val ∧ BdAt V' c (e.add f) := by
 have ia := ha.inf
 have ib := hb.inf
 refine bound_add_vc a b V _ ⟨fun h => ?_, fun h => ⟨fun h' => ?_, fun h' => ?_⟩⟩
 · have h : e.inf ≠ 0 := by rw [← ia]; simpa using h
   refine ⟨a, rfl, ?_⟩
   unfold Eb.add; rw [if_pos h]; exact ha
 · have h : e.inf = 0 := by rw [← ia]; simpa using h
   have h' : f.inf ≠ 0 := by rw [← ib]; simpa using h'
   refine ⟨b, rfl, ?_⟩
   unfold Eb.add; rw [if_neg (by rw [h]; simp), if_pos h']; exact hb
 · have h : e.inf = 0 := by rw [← ia]; simpa using h
   have h' : f.inf = 0 := by rw [← ib]; simpa using h'
   refine (Num_Add_spec ha.num hb.num hz hw).mono fun v V1 _ ⟨r, hv, hr⟩ => ⟨r, hv, _, rfl, ?_⟩
   unfold Eb.add; rw [if_neg (by rw [h]; simp), if_neg (by rw [h']; simp)]
   refine ⟨rfl, ?_, .inl rfl⟩
   have : e.num + f.num = (⟨0, e.x + f.x⟩ : Eb).num := Cq.num_add e.x f.x
   rw [← this]; exact hr
theorem bound_mul_spec {V : View} {a b : BdV} {e f : Eb} (ha : BdAt V a e) (hb : BdAt V b f) (hz : e.num.sz ≤ 2 ^ 40) (hw : f.num.sz ≤ 2 ^ 40) :
 CallV Tryz.prog n_bound_mul #[a.val, b.val] V fun v V' => ∃ c : BdV, v = c.val ∧ BdAt V' c (e.mul f) := by
 have ia := ha.inf
 have ib := hb.inf
 have key : ¬ (e.inf = 0 ∧ f.inf = 0) → ∀ {W : View}, V.le W → CallV Tryz.prog n_bound_sign #[a.val] W fun v V2 => ∃ r2 : Int, v = .int .i64 r2 ∧ CallV Tryz.prog n_bound_sign #[b.val] V2 fun v V3 => ∃ r3 : Int, v = .int .i64 r3 ∧
  ∃ c : BdV, (BdV.mk (IntKind.i64.wrap (r2 * r3)) (NumV.mk (WhV.mk false (Sl.mk none 0 0)) (WhV.mk false (Sl.mk none 0 0)) (Sl.mk none 0 0))).val = c.val ∧ BdAt V3 c (e.mul f) := by
  intro hn W hle
  refine (bound_sign_spec (ha.le hle) hz).mono fun v V2 l2 hv => ⟨_, hv, (bound_sign_spec (hb.le (View.le_trans hle l2)) hw).mono fun v V3 _ hv => ⟨_, hv, _, rfl, ?_⟩⟩
  have r1 : e.sign = -1 ∨ e.sign = 0 ∨ e.sign = 1 := Eb.cmp_range _ _
  have r2 : f.sign = -1 ∨ f.sign = 0 ∨ f.sign = 1 := Eb.cmp_range _ _
  have hm := Eb.mul_ok e f
  unfold Eb.mul at hm ⊢
  rw [if_neg hn] at hm ⊢
  have : IntKind.i64.wrap (e.sign * f.sign) = e.sign * f.sign := by
   rcases r1 with r1 | r1 | r1 <;> rcases r2 with r2 | r2 | r2 <;> rw [r1, r2] <;> decide
  rw [this]; exact .signs V3 hm
 refine bound_mul_vc a b V _ ⟨fun h => ⟨fun h' => ?_, fun h' => ?_⟩, fun h => ?_⟩
 · have h : e.inf = 0 := by rw [← ia]; simpa using h
   have h' : f.inf = 0 := by rw [← ib]; simpa using h'
   refine (Num_Mul_spec ha.num hb.num hz hw).mono fun v V1 _ ⟨r, hv, hr⟩ => ⟨r, hv, _, rfl, ?_⟩
   unfold Eb.mul; rw [if_pos ⟨h, h'⟩]
   refine ⟨rfl, ?_, .inl rfl⟩
   have : e.num * f.num = (⟨0, e.x * f.x⟩ : Eb).num := Cq.num_mul e.x f.x
   rw [← this]; exact hr
 · have h' : f.inf ≠ 0 := by rw [← ib]; simpa using h'
   exact key (fun g => h' g.2) (View.le_refl V)
 · have h : e.inf ≠ 0 := by rw [← ia]; simpa using h
   exact key (fun g => h g.1) (View.le_refl V)
theorem sz_neg_num (e : Eb) : e.neg.num.sz = e.num.sz := by
 have : -e.num = e.neg.num := Cq.num_neg e.x
 rw [← this]; exact Cq.sz_neg _
theorem sz_add_num (e f : Eb) : (e.add f).num.sz ≤ e.num.sz + f.num.sz + 1 := by
 unfold Eb.add; split
 · omega
 · split
   · omega
   · have : e.num + f.num = (⟨0, e.x + f.x⟩ : Eb).num := Cq.num_add e.x f.x
     rw [← this]; exact Cq.sz_add _ _
theorem sz_mul_num (e f : Eb) : (e.mul f).num.sz ≤ e.num.sz + f.num.sz + 1 := by
 unfold Eb.mul; split
 · have : e.num * f.num = (⟨0, e.x * f.x⟩ : Eb).num := Cq.num_mul e.x f.x
   rw [← this]; exact Cq.sz_mul _ _
 · exact Nat.le_trans Cq.sz_zero (by omega)
def bdC (V : View) (x : List Value) (e : Eb) : Prop := ∃ b : BdV, x = b.val.cells.toList ∧ BdAt V b e
theorem bdC.le {V V' : View} (hle : V.le V') (x : List Value) (e : Eb) (h : bdC V x e) : bdC V' x e := by
 obtain ⟨b, e1, hb⟩ := h; exact ⟨b, e1, hb.le hle⟩
def BdsAt (V : View) (s : Sl) (es : List Eb) : Prop := ListAt 6 bdC V s es
theorem BdsAt.le {V V' : View} (hle : V.le V') {s : Sl} {es : List Eb} (h : BdsAt V s es) : BdsAt V' s es := ListAt.le (bdC.le hle) hle h
theorem pick1_spec {V : View} {a b : BdV} {e f : Eb} {p : Option Addr} {way : Int} (ha : BdAt V a e) (hb : BdAt V b f) (hz : e.num.sz ≤ 2 ^ 40) (hw : f.num.sz ≤ 2 ^ 40) (hp : V.load p = some (.int .i64 way)) :
 CallV Tryz.prog n_box_pick_1 #[a.val, b.val, .pointer p] V fun v _ => v = .bool (decide (e.cmp f = way)) :=
 box_pick_1_vc a b p V _ ⟨way, hp, (bound_cmp_spec ha hb hz hw).mono fun v V1 _ hv => ⟨_, hv, by
  congr 1⟩⟩
theorem pick_take (way : Int) : ∀ {es : List Eb} {i : Nat} (h : i + 1 < es.length), Eb.pick way (es.take (i + 2)) = if Eb.cmp es[i + 1] (Eb.pick way (es.take (i + 1))) = way then es[i + 1] else Eb.pick way (es.take (i + 1))
 | [], _, h => by simp at h
 | e :: es, i, h => by
   have hi : i < es.length := by simpa using h
   have e1 : (e :: es).take (i + 2) = e :: es.take (i + 1) := rfl
   have e2 : (e :: es).take (i + 1) = e :: es.take i := rfl
   have e3 : es.take (i + 1) = es.take i ++ [es[i]] := by rw [List.take_add_one]; simp [hi]
   have e4 : (e :: es)[i + 1] = es[i] := rfl
   rw [e1, e2, e3, e4]
   show List.foldl _ e (es.take i ++ [es[i]]) = _
   rw [List.foldl_append]; rfl
theorem sub_addr (a : Option Addr) (k : Nat) : Option.map (fun q => Addr.add q (Int.toNat (k : Int) * 6)) (Option.map (fun q => Addr.add q (Int.toNat 1 * 6)) a) = Option.map (fun q => Addr.add q ((k + 1) * 6)) a := by
 rw [Option.map_map]
 congr 1
 funext q
 show (q.add (Int.toNat 1 * 6)).add (Int.toNat (k : Int) * 6) = _
 rw [addr_add2, Int.toNat_natCast]
 congr 1
 show 1 * 6 + k * 6 = (k + 1) * 6
 omega
theorem pick_spec {V : View} {s : Sl} {es : List Eb} {way : Int} (h : BdsAt V s es) (h0 : es ≠ []) (hn : es.length ≤ 2 ^ 32) (hS : ∀ e ∈ es, e.num.sz ≤ 2 ^ 40) :
 CallV Tryz.prog n_box_pick #[.int .i64 way, s.v] V fun v V' => ∃ b : BdV, v = b.val ∧ BdAt V' b (Eb.pick way es) := by
 have hl := h.len
 have hcap := h.cap
 have h1 : 1 ≤ es.length := by
  rcases Nat.eq_zero_or_pos es.length with c | c
  · exact absurd (List.eq_nil_of_length_eq_zero c) h0
  · exact c
 refine box_pick_vc way s V _ (fun _ x V' => ∃ i : Nat, x.t16 = i ∧ i + 1 ≤ es.length ∧ BdAt V' x.o6 (Eb.pick way (es.take (i + 1))) ∧ (Eb.pick way (es.take (i + 1))).num.sz ≤ 2 ^ 40) (fun _ x _ => (es.length - x.t16).toNat) ?_
 intro b1 V1 l1 hb1
 obtain ⟨hb, x, ⟨b0, hx, hb0⟩, _, hh, hs⟩ := ListAt.get (h.le l1) (t := 0) (by omega) (z := es[0]) (by simp)
 refine ⟨hb, b0, hx ▸ hh, hs, ⟨by omega, by omega, by omega⟩, ⟨0, rfl, h1, ?_, ?_⟩, ?_⟩
 · have : es.take (0 + 1) = [es[0]] := by
     cases es with
     | nil => simp at h1
     | cons e es => simp
   rw [this]; exact hb0
 · have : es.take (0 + 1) = [es[0]] := by
     cases es with
     | nil => simp at h1
     | cons e es => simp
   rw [this]; exact hS _ (List.getElem_mem _)
 rintro ⟨t, o4, o6⟩ V2 l2 ⟨i, rfl, hi, ho, hz⟩
 dsimp only at ho hz ⊢
 have hlen : ((((((s.len : Nat) : Int)).toNat - Int.toNat 1 : Nat) : Int)) = (es.length : Int) - 1 := by rw [Int.toNat_natCast, hl]; show ((es.length - 1 : Nat) : Int) = _; omega
 rw [hlen]
 refine ⟨fun hlt => ?_, fun hge => ?_⟩
 · simp only [decide_eq_true_eq] at hlt
   have hi2 : i + 1 < es.length := by omega
   have hc1 : ¬ s.cap = Int.toNat 1 := by show ¬ s.cap = 1; omega
   rw [if_neg hc1, sub_addr]
   obtain ⟨hb', x', ⟨b', hx', hb''⟩, _, hh', hs'⟩ := ListAt.get (h.le (View.le_trans l1 l2)) (t := ((i + 1 : Nat) : Int)) (by omega) (z := es[i + 1]) (by rw [Int.toNat_natCast]; simp [hi2])
   rw [Int.toNat_natCast] at hh' hs'
   have hsm : (Option.map (fun q => Addr.add q (Int.toNat 1 * 6)) s.a).isSome = true := by
    have := hb'.2.2
    rw [Option.isSome_map]; exact this
   refine ⟨⟨by omega, by omega, hsm⟩, b', hx' ▸ hh', hs', ?_⟩
   have hp : V2.load (some (Addr.mk b1 0 none)) = some (.int .i64 way) := View.load_le l2 (by simp [View.load, hb1])
   refine (pick1_spec hb'' ho (hS _ (List.getElem_mem _)) hz hp).mono fun v V3 l3 hv => ⟨_, hv, fun hc => ?_, fun hc => ?_⟩
   · simp only [decide_eq_true_eq] at hc
     rw [i64w (by omega) (by omega)]
     refine ⟨⟨i + 1, by omega, by omega, ?_, ?_⟩, by omega⟩
     · rw [pick_take way hi2, if_pos hc]; exact hb''.le l3
     · rw [pick_take way hi2, if_pos hc]; exact hS _ (List.getElem_mem _)
   · simp only [decide_eq_false_iff_not] at hc
     rw [i64w (by omega) (by omega)]
     refine ⟨⟨i + 1, by omega, by omega, ?_, ?_⟩, by omega⟩
     · rw [pick_take way hi2, if_neg hc]; exact ho.le l3
     · rw [pick_take way hi2, if_neg hc]; exact hz
 · simp only [decide_eq_false_iff_not] at hge
   have : i + 1 = es.length := by omega
   rw [this, List.take_length] at ho
   exact ⟨_, rfl, ho⟩
theorem least_spec {V : View} {s : Sl} {es : List Eb} (h : BdsAt V s es) (h0 : es ≠ []) (hn : es.length ≤ 2 ^ 32) (hS : ∀ e ∈ es, e.num.sz ≤ 2 ^ 40) :
 CallV Tryz.prog n_box_least #[s.v] V fun v V' => ∃ b : BdV, v = b.val ∧ BdAt V' b (Eb.pick (-1) es) :=
 box_least_vc s V _ ((pick_spec h h0 hn hS).mono fun _ _ _ ⟨b, hv, hb⟩ => ⟨b, hv, b, rfl, hb⟩)
theorem greatest_spec {V : View} {s : Sl} {es : List Eb} (h : BdsAt V s es) (h0 : es ≠ []) (hn : es.length ≤ 2 ^ 32) (hS : ∀ e ∈ es, e.num.sz ≤ 2 ^ 40) :
 CallV Tryz.prog n_box_greatest #[s.v] V fun v V' => ∃ b : BdV, v = b.val ∧ BdAt V' b (Eb.pick 1 es) :=
 box_greatest_vc s V _ ((pick_spec h h0 hn hS).mono fun _ _ _ ⟨b, hv, hb⟩ => ⟨b, hv, b, rfl, hb⟩)
structure EsAt (V : View) (s : SetV) (e : Es) : Prop where
 lo : BdAt V s.lo e.lo
 hi : BdAt V s.hi e.hi
theorem EsAt.le {V V' : View} {s : SetV} {e : Es} (hle : V.le V') (h : EsAt V s e) : EsAt V' s e := ⟨h.lo.le hle, h.hi.le hle⟩
def Es.szle (e : Es) (S : Nat) : Prop := e.lo.num.sz ≤ S ∧ e.hi.num.sz ≤ S
theorem set_neg_spec {V : View} {s : SetV} {e : Es} (h : EsAt V s e) : CallV Tryz.prog n_set_neg #[s.val] V fun v V' => ∃ r : SetV, v = r.val ∧ EsAt V' r e.neg :=
 set_neg_vc s V _ ((bound_neg_spec h.hi).mono fun _ _ l1 ⟨a, hv, ha⟩ => ⟨a, hv, (bound_neg_spec (h.lo.le l1)).mono fun _ _ l2 ⟨b, hv, hb⟩ => ⟨b, hv, _, rfl, ha.le l2, hb⟩⟩)
theorem set_add_spec {V : View} {s t : SetV} {e f : Es} (h : EsAt V s e) (k : EsAt V t f) {S : Nat} (he : Es.szle e S) (hf : Es.szle f S) (hS : S ≤ 2 ^ 30) :
 CallV Tryz.prog n_set_add #[s.val, t.val] V fun v V' => ∃ r : SetV, v = r.val ∧ EsAt V' r (e.add f) :=
 set_add_vc s t V _ ((bound_add_spec h.lo k.lo (by have := he.1; omega) (by have := hf.1; omega)).mono fun v V1 l1 ⟨a, hv, ha⟩ => ⟨a, hv,
  (bound_add_spec (h.hi.le l1) (k.hi.le l1) (by have := he.2; omega) (by have := hf.2; omega)).mono fun v V2 l2 ⟨b, hv, hb⟩ => ⟨b, hv, _, rfl, ha.le l2, hb⟩⟩)
theorem four_bds {V : View} {b : Nat} {r1 r2 r3 r4 : BdV} {e1 e2 e3 e4 : Eb} (h1 : BdAt V r1 e1) (h2 : BdAt V r2 e2) (h3 : BdAt V r3 e3) (h4 : BdAt V r4 e4)
 (hb : V b = some #[.int .i64 r1.inf, .bool r1.x.re.neg, r1.x.re.mag.v, .bool r1.x.im.neg, r1.x.im.mag.v, r1.x.under.v, .int .i64 r2.inf, .bool r2.x.re.neg, r2.x.re.mag.v, .bool r2.x.im.neg, r2.x.im.mag.v, r2.x.under.v, .int .i64 r3.inf, .bool r3.x.re.neg, r3.x.re.mag.v, .bool r3.x.im.neg, r3.x.im.mag.v, r3.x.under.v, .int .i64 r4.inf, .bool r4.x.re.neg, r4.x.re.mag.v, .bool r4.x.im.neg, r4.x.im.mag.v, r4.x.under.v]) :
 BdsAt V ⟨some ⟨b, 0, none⟩, 4, 4⟩ [e1, e2, e3, e4] :=
 ListAt.of_made (o := r1.val.cells.toList ++ (r2.val.cells.toList ++ (r3.val.cells.toList ++ (r4.val.cells.toList ++ [])))) hb
  ⟨_, _, rfl, rfl, ⟨r1, rfl, h1⟩, _, _, rfl, rfl, ⟨r2, rfl, h2⟩, _, _, rfl, rfl, ⟨r3, rfl, h3⟩, _, _, rfl, rfl, ⟨r4, rfl, h4⟩, rfl⟩ rfl
theorem prods_sz {e f : Es} {S : Nat} (he : Es.szle e S) (hf : Es.szle f S) : ∀ x ∈ Es.prods e f, x.num.sz ≤ 2 * S + 1 := by
 intro x hx
 simp only [Es.prods, List.mem_cons, List.not_mem_nil, or_false] at hx
 have a := he.1; have b := he.2; have c := hf.1; have d := hf.2
 rcases hx with rfl | rfl | rfl | rfl
 · have := sz_mul_num e.lo f.lo; omega
 · have := sz_mul_num e.lo f.hi; omega
 · have := sz_mul_num e.hi f.lo; omega
 · have := sz_mul_num e.hi f.hi; omega
theorem pick_sz {way : Int} {es : List Eb} {S : Nat} (h0 : es ≠ []) (h : ∀ e ∈ es, e.num.sz ≤ S) : (Eb.pick way es).num.sz ≤ S := by
 cases es with
 | nil => exact absurd rfl h0
 | cons e es =>
   show (List.foldl (fun o x => if x.cmp o = way then x else o) e es).num.sz ≤ S
   rcases Eb.pick_mem way es e with g | g
   · rw [g]; exact h e (by simp)
   · exact h _ (by simp [g])
theorem set_mul_spec {V : View} {s t : SetV} {e f : Es} (h : EsAt V s e) (k : EsAt V t f) {S : Nat} (he : Es.szle e S) (hf : Es.szle f S) (hS : S ≤ 2 ^ 30) :
 CallV Tryz.prog n_set_mul #[s.val, t.val] V fun v V' => ∃ r : SetV, v = r.val ∧ EsAt V' r (e.mul f) := by
 have a := he.1; have b := he.2; have c := hf.1; have d := hf.2
 have hp := prods_sz he hf
 have hp40 : ∀ x ∈ Es.prods e f, x.num.sz ≤ 2 ^ 40 := fun x hx => by have := hp x hx; omega
 refine set_mul_vc s t V _ ((bound_mul_spec h.lo k.lo (by omega) (by omega)).mono fun v V1 l1 ⟨r1, hv, h1⟩ => ⟨r1, hv, ?_⟩)
 refine (bound_mul_spec (h.lo.le l1) (k.hi.le l1) (by omega) (by omega)).mono fun v V2 l2 ⟨r2, hv, h2⟩ => ⟨r2, hv, ?_⟩
 have L2 := View.le_trans l1 l2
 refine (bound_mul_spec (h.hi.le L2) (k.lo.le L2) (by omega) (by omega)).mono fun v V3 l3 ⟨r3, hv, h3⟩ => ⟨r3, hv, ?_⟩
 have L3 := View.le_trans L2 l3
 refine (bound_mul_spec (h.hi.le L3) (k.hi.le L3) (by omega) (by omega)).mono fun v V4 l4 ⟨r4, hv, h4⟩ => ⟨r4, hv, fun b1 V5 l5 _ hb1 => ?_⟩
 have g1 := h1.le (View.le_trans l2 (View.le_trans l3 l4))
 have g2 := h2.le (View.le_trans l3 l4)
 have g3 := h3.le l4
 refine (least_spec (four_bds (g1.le l5) (g2.le l5) (g3.le l5) (h4.le l5) hb1) (by simp) (by simp) hp40).mono fun v V6 l6 ⟨r5, hv, h5⟩ => ⟨r5, hv, fun b2 V7 l7 _ hb2 => ?_⟩
 have L7 := View.le_trans l5 (View.le_trans l6 l7)
 exact (greatest_spec (four_bds (g1.le L7) (g2.le L7) (g3.le L7) (h4.le L7) hb2) (by simp) (by simp) hp40).mono fun v V8 l8 ⟨r6, hv, h6⟩ => ⟨r6, hv, _, rfl, h5.le (View.le_trans l7 l8), h6⟩
theorem set_zero_spec {V : View} {s : SetV} {e : Es} (h : EsAt V s e) {S : Nat} (he : Es.szle e S) (hS : S ≤ 2 ^ 30) : CallV Tryz.prog n_set_zero #[s.val] V fun v _ => v = .bool e.zero := by
 have a := he.1; have b := he.2
 refine set_zero_vc s V _ ((bound_sign_spec h.lo (by omega)).mono fun v V1 l1 hv => ⟨_, hv, fun hc => ?_, fun hc => ?_⟩)
 · refine (bound_sign_spec (h.hi.le l1) (by omega)).mono fun v V2 _ hv => ⟨_, hv, ?_⟩
   unfold Es.zero; rw [hc]; rfl
 · unfold Es.zero; rw [hc]; rfl
theorem down_key : 18442240474082181120 = wordK (-(infR : Int)) := by decide
theorem up_key : infR = wordK (infR : Int) := by decide
theorem set_span_spec {V : View} {s : SetV} {e : Es} (h : EsAt V s e) {S : Nat} (he : Es.szle e S) (hS : S ≤ 2 ^ 30) : CallV Tryz.prog n_set_span #[s.val] V fun v _ => v = (Sk.v e.span).val := by
 have a := he.1; have b := he.2
 have il := h.lo.inf
 have ih := h.hi.inf
 refine set_span_vc s V _ (Inf_down.mono fun v V1 l1 hv => ⟨_, hv, Inf_up.mono fun v V2 l2 hv => ⟨_, hv, fun h1 => ?_, fun h1 => ?_⟩⟩)
 · have h1 : e.lo.inf = 0 := by rw [← il]; simpa using h1
   refine (Below_spec (h.lo.num.le (View.le_trans l1 l2)) (by omega)).mono fun v V3 l3 hv => ⟨_, hv, fun h2 => ?_, fun h2 => ?_⟩
   · have h2 : e.hi.inf = 0 := by rw [← ih]; simpa using h2
     refine (Above_spec (h.hi.num.le (View.le_trans l1 (View.le_trans l2 l3))) (by omega)).mono fun v V4 l4 hv => ⟨_, hv, ?_⟩
     unfold Es.span Sk.v; rw [if_pos h1, if_pos h2]; rfl
   · have h2 : e.hi.inf ≠ 0 := by rw [← ih]; simpa using h2
     unfold Es.span Sk.v; rw [if_pos h1, if_neg h2, ← up_key]; rfl
 · have h1 : e.lo.inf ≠ 0 := by rw [← il]; simpa using h1
   refine ⟨fun h2 => ?_, fun h2 => ?_⟩
   · have h2 : e.hi.inf = 0 := by rw [← ih]; simpa using h2
     refine (Above_spec (h.hi.num.le (View.le_trans l1 l2)) (by omega)).mono fun v V4 l4 hv => ⟨_, hv, ?_⟩
     unfold Es.span Sk.v; rw [if_neg h1, if_pos h2, ← down_key]; rfl
   · have h2 : e.hi.inf ≠ 0 := by rw [← ih]; simpa using h2
     unfold Es.span Sk.v; rw [if_neg h1, if_neg h2, ← up_key, ← down_key]

theorem Rep.re1 {z : Cq} {A B : Int} {D : Nat} (h : Rep z A B D) : Rep ⟨z.re, 0⟩ A 0 D := ⟨h.pos, h.re, by simp [Rat.div_def]⟩
theorem Rep.im1 {z : Cq} {A B : Int} {D : Nat} (h : Rep z A B D) : Rep ⟨z.im, 0⟩ B 0 D := ⟨h.pos, h.im, by simp [Rat.div_def]⟩
theorem re1_sz (z : Cq) : (⟨z.re, 0⟩ : Cq).sz ≤ z.sz + 1 :=
 (Rep.re1 z.canon.rep).sz (by have := z.szA; omega) (by rw [Int.natAbs_zero, bl_zero]; omega) (by have := z.szD; omega)
theorem im1_sz (z : Cq) : (⟨z.im, 0⟩ : Cq).sz ≤ z.sz + 1 :=
 (Rep.im1 z.canon.rep).sz (by have := z.szB; omega) (by rw [Int.natAbs_zero, bl_zero]; omega) (by have := z.szD; omega)
theorem Num_Re_spec {V : View} {x : NumV} {z : Cq} (h : NumAt V x z) (hz : z.sz ≤ 2 ^ 40) : CallV Tryz.prog n_Num_Re #[x.val] V fun v V' => ∃ r : NumV, v = r.val ∧ NumAt V' r ⟨z.re, 0⟩ := by
 have zA := Cq.wA hz; have zB := Cq.wB hz; have zD := Cq.wD hz
 refine Num_Re_vc x V _ ((Num_den_spec h).mono fun v V1 l1 ⟨d, hv, hd⟩ => ⟨d, hv, ?_⟩)
 exact (num_over_spec (h.re.le l1) (IntAt.zero V1) hd (Rep.re1 z.canon.rep) (by omega) (by rw [Int.natAbs_zero, wn_zero]; omega) (by omega)).mono fun v V2 _ ⟨r, hv, hr⟩ => ⟨r, hv, r, rfl, hr⟩
theorem Num_Im_spec {V : View} {x : NumV} {z : Cq} (h : NumAt V x z) (hz : z.sz ≤ 2 ^ 40) : CallV Tryz.prog n_Num_Im #[x.val] V fun v V' => ∃ r : NumV, v = r.val ∧ NumAt V' r ⟨z.im, 0⟩ := by
 have zA := Cq.wA hz; have zB := Cq.wB hz; have zD := Cq.wD hz
 refine Num_Im_vc x V _ ((Num_den_spec h).mono fun v V1 l1 ⟨d, hv, hd⟩ => ⟨d, hv, ?_⟩)
 exact (num_over_spec (h.im.le l1) (IntAt.zero V1) hd (Rep.im1 z.canon.rep) (by omega) (by rw [Int.natAbs_zero, wn_zero]; omega) (by omega)).mono fun v V2 _ ⟨r, hv, hr⟩ => ⟨r, hv, r, rfl, hr⟩
theorem A_zero {z : Cq} : z.A = 0 ↔ z.re = 0 := by
 have h := z.canon.rep
 have hD := natCast_ne h.pos
 rw [h.re]
 constructor
 · intro e; rw [e]; simp [Rat.div_def]
 · intro e
   have : (z.A : Rat) = 0 := by
    have : (z.A : Rat) = (z.A : Rat) / (z.D : Rat) * (z.D : Rat) := by rw [Rat.div_mul_cancel hD]
    rw [this, e]; simp
   exact_mod_cast this
theorem B_zero {z : Cq} : z.B = 0 ↔ z.im = 0 := by
 have h := z.canon.rep
 have hD := natCast_ne h.pos
 rw [h.im]
 constructor
 · intro e; rw [e]; simp [Rat.div_def]
 · intro e
   have : (z.B : Rat) = 0 := by
    have : (z.B : Rat) = (z.B : Rat) / (z.D : Rat) * (z.D : Rat) := by rw [Rat.div_mul_cancel hD]
    rw [this, e]; simp
   exact_mod_cast this
theorem Num_Clear_spec {V : View} {x : NumV} {z : Cq} (h : NumAt V x z) (hz : z.sz ≤ 2 ^ 40) : CallV Tryz.prog n_Num_Clear #[x.val] V fun v _ => v = .bool (decide (z ≠ Cq.zero)) := by
 have zA := Cq.wA hz; have zB := Cq.wB hz
 refine Num_Clear_vc x V _ ?_
 have a1 := h.re.2.len; have a2 := h.im.2.len
 have b1 := h.re.2.len_zero; have b2 := h.im.2.len_zero
 have c1 : x.re.mag.len ≤ 2 ^ 50 := by
  have : x.re.mag.len = wn z.A.natAbs := by rw [wn]; exact a1.symm ▸ rfl
  omega
 have c2 : x.im.mag.len ≤ 2 ^ 50 := by
  have : x.im.mag.len = wn z.B.natAbs := by rw [wn]; exact a2.symm ▸ rfl
  omega
 rw [i64w (by omega) (by omega)]
 have d1 : x.re.mag.len = 0 ↔ z.re = 0 := by rw [b1, ← A_zero]; omega
 have d2 : x.im.mag.len = 0 ↔ z.im = 0 := by rw [b2, ← B_zero]; omega
 have e : (z ≠ Cq.zero) ↔ ((x.re.mag.len : Int) + (x.im.mag.len : Int) > 0) := by
  constructor
  · intro hne
    rcases Nat.eq_zero_or_pos x.re.mag.len with p | p
    · rcases Nat.eq_zero_or_pos x.im.mag.len with q | q
      · exact absurd (Cq.ext' (d1.1 p) (d2.1 q)) hne
      · omega
    · omega
  · rintro hp rfl
    have p := d1.2 rfl; have q := d2.2 rfl
    omega
 simp only [e]
theorem Rep.div {z w : Cq} {A B a b : Int} {D d n : Nat} (hw : Rep w A B D) (ht : Rep (z * ⟨(A : Rat), -(B : Rat)⟩) a b d) (hn : (n : Int) = A * A + B * B) (h0 : n ≠ 0) : Rep (z.div w) (a * D) (b * D) (d * n) := by
 have hD := natCast_ne hw.pos
 have hd := natCast_ne ht.pos
 have hn0 := natCast_ne h0
 have hN : (n : Rat) = (A : Rat) * A + B * B := by exact_mod_cast hn
 have t1 := ht.re; have t2 := ht.im
 rw [Cq.mul_re] at t1; rw [Cq.mul_im] at t2
 dsimp only at t1 t2
 refine ⟨Nat.mul_ne_zero ht.pos h0, ?_, ?_⟩
 · show (z.re * w.re + z.im * w.im) / (w.re * w.re + w.im * w.im) = _
   rw [hw.re, hw.im, Rat.intCast_mul, Rat.natCast_mul, Rat.intCast_natCast]
   have e1 : z.re * ((A : Rat) / (D : Rat)) + z.im * ((B : Rat) / (D : Rat)) = (a : Rat) / (d : Rat) / (D : Rat) := by rw [← t1]; grind
   have e2 : (A : Rat) / (D : Rat) * ((A : Rat) / (D : Rat)) + (B : Rat) / (D : Rat) * ((B : Rat) / (D : Rat)) = (n : Rat) / ((D : Rat) * (D : Rat)) := by rw [hN]; grind
   rw [e1, e2]; grind
 · show (z.im * w.re - z.re * w.im) / (w.re * w.re + w.im * w.im) = _
   rw [hw.re, hw.im, Rat.intCast_mul, Rat.natCast_mul, Rat.intCast_natCast]
   have e1 : z.im * ((A : Rat) / (D : Rat)) - z.re * ((B : Rat) / (D : Rat)) = (b : Rat) / (d : Rat) / (D : Rat) := by rw [← t2]; grind
   have e2 : (A : Rat) / (D : Rat) * ((A : Rat) / (D : Rat)) + (B : Rat) / (D : Rat) * ((B : Rat) / (D : Rat)) = (n : Rat) / ((D : Rat) * (D : Rat)) := by rw [hN]; grind
   rw [e1, e2]; grind
theorem Rep.ofInts (A B : Int) : Rep ⟨(A : Rat), -(B : Rat)⟩ A (-B) 1 := by
 refine ⟨by omega, ?_, ?_⟩
 · rw [Rat.div_def]; simp; grind
 · rw [Rat.div_def]; simp; grind
theorem Num_Div_spec {V : View} {x y : NumV} {z w : Cq} (hx : NumAt V x z) (hy : NumAt V y w) (hz : z.sz ≤ 2 ^ 36) (hw : w.sz ≤ 2 ^ 36) :
 CallV Tryz.prog n_Num_Div #[x.val, y.val] V fun v V' => ∃ (r : NumV) (e : Int), v = .tuple #[r.val, .int .i64 e] ∧ (w = Cq.zero → e = 3 ∧ NumAt V' r Cq.zero) ∧ (w ≠ Cq.zero → e = 0 ∧ NumAt V' r (z.div w)) := by
 have hw40 : w.sz ≤ 2 ^ 40 := by omega
 have wA := Cq.wA hw40; have wB := Cq.wB hw40; have wD := Cq.wD hw40
 have sA := w.szA; have sB := w.szB; have sD := w.szD
 refine Num_Div_vc x y V _ ((Num_Clear_spec hy hw40).mono fun v V1 l1 hv => ⟨_, hv, fun hc => ?_, fun hc => ?_⟩)
 · have hc : w = Cq.zero := by simpa using hc
   exact ⟨_, _, rfl, fun _ => ⟨rfl, NumAt.zero V1⟩, fun h => absurd hc h⟩
 have hc : w ≠ Cq.zero := by simpa using hc
 replace hx := hx.le l1; replace hy := hy.le l1
 have m1 := wn_muli wA wA; have m2 := wn_muli wB wB
 refine (whole_times_spec hy.re hy.re (by omega) (by omega)).mono fun v V2 l2 ⟨r2, hv, h2⟩ => ⟨r2, hv, ?_⟩
 replace hx := hx.le l2; replace hy := hy.le l2
 refine (whole_times_spec hy.im hy.im (by omega) (by omega)).mono fun v V3 l3 ⟨r3, hv, h3⟩ => ⟨r3, hv, ?_⟩
 replace hx := hx.le l3; replace hy := hy.le l3; replace h2 := h2.le l3
 refine (whole_plus_spec h2 h3 (by omega) (by omega)).mono fun v V4 l4 ⟨r4, hv, h4⟩ => ⟨r4, hv, ?_⟩
 replace hx := hx.le l4; replace hy := hy.le l4
 refine (whole_minus_spec hy.im).mono fun v V5 l5 ⟨r5, hv, h5⟩ => ⟨r5, hv, fun b1 V6 l6 _ hb1 => ?_⟩
 replace hx := hx.le (View.le_trans l5 l6); replace hy := hy.le (View.le_trans l5 l6); replace h4 := h4.le (View.le_trans l5 l6); replace h5 := h5.le l6
 refine (num_over_spec hy.re h5 (nat_one_at hb1) (Rep.ofInts w.A w.B) (by omega) (by rw [Int.natAbs_neg]; omega) wn_one).mono fun v V7 l7 ⟨r6, hv, h6⟩ => ⟨r6, hv, ?_⟩
 replace hx := hx.le l7; replace hy := hy.le l7; replace h4 := h4.le l7
 have cs : (⟨(w.A : Rat), -(w.B : Rat)⟩ : Cq).sz ≤ 2 ^ 36 + 1 := (Rep.ofInts w.A w.B).sz (by omega) (by rw [Int.natAbs_neg]; omega) (by rw [bl_one]; omega)
 refine (Num_Mul_spec hx h6 (by omega) (by omega)).mono fun v V8 l8 ⟨r7, hv, h7⟩ => ⟨r7, hv, ?_⟩
 replace hy := hy.le l8; replace h4 := h4.le l8
 have ts := Cq.sz_mul z ⟨(w.A : Rat), -(w.B : Rat)⟩
 have ts40 : (z * ⟨(w.A : Rat), -(w.B : Rat)⟩).sz ≤ 2 ^ 40 := by omega
 have tA := Cq.wA ts40; have tB := Cq.wB ts40; have tD := Cq.wD ts40
 refine (Num_den_spec hy).mono fun v V9 l9 ⟨r8, hv, h8⟩ => ⟨r8, hv, ?_⟩
 replace hy := hy.le l9; replace h4 := h4.le l9; replace h7 := h7.le l9
 refine (whole_scaled_spec h7.re h8 (by omega) (by omega)).mono fun v V10 l10 ⟨r9, hv, h9⟩ => ⟨r9, hv, ?_⟩
 replace hy := hy.le l10; replace h4 := h4.le l10; replace h7 := h7.le l10
 refine (Num_den_spec hy).mono fun v V11 l11 ⟨r10, hv, h10⟩ => ⟨r10, hv, ?_⟩
 replace h4 := h4.le l11; replace h7 := h7.le l11; replace h9 := h9.le l11
 refine (whole_scaled_spec h7.im h10 (by omega) (by omega)).mono fun v V12 l12 ⟨r11, hv, h11⟩ => ⟨r11, hv, ?_⟩
 replace h4 := h4.le l12; replace h7 := h7.le l12; replace h9 := h9.le l12
 refine (Num_den_spec h7).mono fun v V13 l13 ⟨r12, hv, h12⟩ => ⟨r12, hv, ?_⟩
 replace h4 := h4.le l13; replace h9 := h9.le l13; replace h11 := h11.le l13
 have n1 := wn_addi m1 m2
 refine (nat_mul_spec h12 h4.2 (by omega) (by omega)).mono fun v V14 l14 ⟨r13, hv, h13⟩ => ⟨r13, hv, ?_⟩
 replace h9 := h9.le l14; replace h11 := h11.le l14
 have p1 := wn_mul_le (z * ⟨(w.A : Rat), -(w.B : Rat)⟩).D (w.A * w.A + w.B * w.B).natAbs
 have q1 := wn_muli tA (b := (w.D : Int)) (by rw [Int.natAbs_natCast]; exact wD)
 have q2 := wn_muli tB (b := (w.D : Int)) (by rw [Int.natAbs_natCast]; exact wD)
 have hsq : (0 : Int) ≤ w.A * w.A + w.B * w.B := Int.add_nonneg (by rw [← Int.natAbs_mul_self]; exact Int.natCast_nonneg _) (by rw [← Int.natAbs_mul_self]; exact Int.natCast_nonneg _)
 refine (num_over_spec h9 h11 h13 (Rep.div w.canon.rep (z * ⟨(w.A : Rat), -(w.B : Rat)⟩).canon.rep (Int.natAbs_of_nonneg hsq) ?_) (by omega) (by omega) (by omega)).mono fun v V15 _ ⟨r, hv, hr⟩ => ⟨r, hv, r, _, rfl, fun h => absurd h hc, fun _ => ⟨rfl, hr⟩⟩
 intro h0
 have e0 : w.A * w.A + w.B * w.B = 0 := Int.natAbs_eq_zero.1 h0
 have a0 : w.A = 0 := by
  by_cases h : w.A = 0
  · exact h
  · have : 0 < w.A * w.A := by
      have : 0 < w.A.natAbs * w.A.natAbs := Nat.mul_pos (by omega) (by omega)
      rw [← Int.natAbs_mul_self]; exact_mod_cast this
    have : (0 : Int) ≤ w.B * w.B := by rw [← Int.natAbs_mul_self]; exact Int.natCast_nonneg _
    omega
 have b0 : w.B = 0 := by
  rw [a0] at e0
  have : w.B * w.B = 0 := by omega
  rcases Int.mul_eq_zero.1 this with h | h <;> exact h
 exact hc (Cq.ext' (A_zero.1 a0) (B_zero.1 b0))
theorem div_sz {z w : Cq} {S : Nat} (hz : z.sz ≤ S) (hw : w.sz ≤ S) : (z.div w).sz ≤ 4 * S + 8 := by
 have sA := w.szA; have sB := w.szB; have sD := w.szD
 have cs : (⟨(w.A : Rat), -(w.B : Rat)⟩ : Cq).sz ≤ S + 1 := (Rep.ofInts w.A w.B).sz (by omega) (by rw [Int.natAbs_neg]; omega) (by rw [bl_one]; omega)
 have ts := Cq.sz_mul z ⟨(w.A : Rat), -(w.B : Rat)⟩
 have tA := (z * ⟨(w.A : Rat), -(w.B : Rat)⟩ : Cq).szA; have tB := (z * ⟨(w.A : Rat), -(w.B : Rat)⟩ : Cq).szB; have tD := (z * ⟨(w.A : Rat), -(w.B : Rat)⟩ : Cq).szD
 have hsq : (0 : Int) ≤ w.A * w.A + w.B * w.B := Int.add_nonneg (by rw [← Int.natAbs_mul_self]; exact Int.natCast_nonneg _) (by rw [← Int.natAbs_mul_self]; exact Int.natCast_nonneg _)
 by_cases h0 : (w.A * w.A + w.B * w.B).natAbs = 0
 · have : z.div w = Cq.zero := by
     have hr := w.canon.rep
     have e0 : w.A * w.A + w.B * w.B = 0 := Int.natAbs_eq_zero.1 h0
     have hn : w.norm = 0 := by
      unfold Cq.norm
      rw [hr.re, hr.im]
      have : (w.A : Rat) * w.A + w.B * w.B = 0 := by exact_mod_cast e0
      have hD := natCast_ne hr.pos
      grind
     refine Cq.ext' ?_ ?_
     · show _ / w.norm = 0; rw [hn]; simp [Rat.div_def]
     · show _ / w.norm = 0; rw [hn]; simp [Rat.div_def]
   rw [this]; have := Cq.sz_zero; omega
 · refine (Rep.div w.canon.rep (z * ⟨(w.A : Rat), -(w.B : Rat)⟩).canon.rep (Int.natAbs_of_nonneg hsq) h0).sz ?_ ?_ ?_
   · have := bl_muli (z * ⟨(w.A : Rat), -(w.B : Rat)⟩).A (w.D : Int); rw [Int.natAbs_natCast] at this; omega
   · have := bl_muli (z * ⟨(w.A : Rat), -(w.B : Rat)⟩).B (w.D : Int); rw [Int.natAbs_natCast] at this; omega
   · have h1 := bl_mul (z * ⟨(w.A : Rat), -(w.B : Rat)⟩).D (w.A * w.A + w.B * w.B).natAbs
     have h2 := bl_addi (a := w.A * w.A) (b := w.B * w.B) (k := 2 * S) (Nat.le_trans (bl_muli _ _) (by omega)) (Nat.le_trans (bl_muli _ _) (by omega))
     omega

theorem plain_spec {V : View} {x : Nat} (h : okW x) : CallV Tryz.prog n_box_plain #[.float .f64 x] V fun v _ => v = .float .f64 (wordK (key x)) := by
 have z0 : okW 0 := ⟨by decide, by decide⟩
 have k0 : key 0 = 0 := by decide
 refine box_plain_vc x V _ ⟨fun hc => ?_, fun hc => ?_⟩
 · rw [ord_eq h z0, k0] at hc
   have hc : key x = 0 := by simpa using hc
   rw [hc]; rfl
 · rw [ord_eq h z0, k0] at hc
   have hc : ¬ key x = 0 := by simpa using hc
   have : wordK (key x) = x := wordK_key h.1 (by rintro rfl; exact hc (by decide))
   rw [this]
theorem MakeSpan_spec {V : View} {x y : Nat} (hx : x < 2 ^ 64) (hy : y < 2 ^ 64) : CallV Tryz.prog n_box_MakeSpan #[.float .f64 x, .float .f64 y] V fun v _ => v = .tuple #[(mkS x y).v.val, .int .i64 (mkE x y)] := by
 have bad : ∀ {e : Int}, mkE x y = e → e ≠ 0 → (Value.tuple #[(SpV.mk 0 0).val, .int .i64 e]) = .tuple #[(mkS x y).v.val, .int .i64 (mkE x y)] := by
  intro e he h0
  unfold mkS; rw [he, if_neg h0, Sk.nil_v]
 refine box_MakeSpan_vc x y V _ ((IsNaN_spec hx).mono fun v V1 _ hv => ⟨_, hv, fun hc => ?_, fun hc => ?_⟩)
 · have hc : ¬ okW x := by simpa using hc
   exact bad (by unfold mkE; rw [if_pos (.inl hc)]) (by decide)
 have h1 : okW x := by simpa using hc
 refine (IsNaN_spec hy).mono fun v V2 _ hv => ⟨_, hv, fun hc => ?_, fun hc => ?_⟩
 · have hc : ¬ okW y := by simpa using hc
   exact bad (by unfold mkE; rw [if_pos (.inr (.inl hc))]) (by decide)
 have h2 : okW y := by simpa using hc
 refine (IsInf_up hx).mono fun v V3 _ hv => ⟨_, hv, fun hc => ?_, fun hc => ?_⟩
 · have hc : key x = (infR : Int) := by simp only [decide_eq_true_eq] at hc; exact hc.2
   exact bad (by unfold mkE; rw [if_pos (.inr (.inr (.inl hc)))]) (by decide)
 have h3 : ¬ key x = (infR : Int) := by simp only [decide_eq_false_iff_not] at hc; exact fun e => hc ⟨h1, e⟩
 refine (IsInf_down hy).mono fun v V4 _ hv => ⟨_, hv, fun hc => ?_, fun hc => ?_⟩
 · have hc : key y = -(infR : Int) := by simp only [decide_eq_true_eq] at hc; exact hc.2
   exact bad (by unfold mkE; rw [if_pos (.inr (.inr (.inr hc)))]) (by decide)
 have h4 : ¬ key y = -(infR : Int) := by simp only [decide_eq_false_iff_not] at hc; exact fun e => hc ⟨h2, e⟩
 have hno : ¬ (¬ okW x ∨ ¬ okW y ∨ key x = (infR : Int) ∨ key y = -(infR : Int)) := by
  rintro (h | h | h | h)
  · exact h h1
  · exact h h2
  · exact h3 h
  · exact h4 h
 refine ⟨fun hc => ?_, fun hc => ?_⟩
 · rw [ord_gt h1 h2] at hc
   have hc : key y < key x := by simpa using hc
   exact bad (by unfold mkE; rw [if_neg hno, if_pos hc]) (by decide)
 · rw [ord_gt h1 h2] at hc
   have hc : ¬ key y < key x := by simpa using hc
   have he : mkE x y = 0 := by unfold mkE; rw [if_neg hno, if_neg hc]
   refine (plain_spec h1).mono fun v V5 _ hv => ⟨_, hv, (plain_spec h2).mono fun v V6 _ hv => ⟨_, hv, ?_⟩⟩
   unfold mkS; rw [he, if_pos rfl]; rfl
theorem set_spec {V : View} {s : Sk} (h : s.ok) : CallV Tryz.prog n_Span_set #[s.v.val] V fun v V' => ∃ r : SetV, v = r.val ∧ EsAt V' r s.set := by
 refine Span_set_vc s.v V _ ((end_spec (okK h.lo)).mono fun v V1 _ ⟨a, hv, ha⟩ => ⟨a, hv, (end_spec (okK h.hi)).mono fun v V2 l2 ⟨b, hv, hb⟩ => ⟨b, hv, _, rfl, ?_, ?_⟩⟩)
 · rw [keyK h.lo] at ha; exact ha.le l2
 · rw [keyK h.hi] at hb; exact hb
theorem set_szle {s : Sk} (h : s.ok) : Es.szle s.set 2100 := ⟨endE_sz h.lo, endE_sz h.hi⟩
theorem Has_spec {V : View} {s : Sk} (h : s.ok) {x : NumV} {z : Cq} (hx : NumAt V x z) (hz : z.sz ≤ 2 ^ 40) : CallV Tryz.prog n_Span_Has #[s.v.val, x.val] V fun v _ => v = .bool (decide (z.im = 0) && s.has z.re) := by
 refine Span_Has_vc s.v x V _ ((set_spec h).mono fun v V1 l1 ⟨r, hv, hr⟩ => ⟨r, hv, (Num_Real_spec (hx.le l1)).mono fun v V2 l2 hv => ⟨_, hv, fun hc => ?_, fun hc => ?_⟩⟩)
 · have hc : z.im = 0 := by simpa using hc
   have e : z = (⟨0, z.re⟩ : Eb).num := Cq.ext' rfl hc
   have hb : BdAt V2 (BdV.mk 0 x) ⟨0, z.re⟩ := ⟨rfl, by rw [← e]; exact hx.le (View.le_trans l1 l2), .inl rfl⟩
   have hzz : (⟨0, z.re⟩ : Eb).num.sz ≤ 2 ^ 40 := by rw [← e]; exact hz
   have s1 : (endE s.lo).num.sz ≤ 2 ^ 40 := Nat.le_trans (endE_sz h.lo) (by omega)
   have s2 : (endE s.hi).num.sz ≤ 2 ^ 40 := Nat.le_trans (endE_sz h.hi) (by omega)
   refine (bound_cmp_spec (hr.lo.le l2) hb s1 hzz).mono fun v V3 l3 hv => ⟨_, hv, fun hd => ?_, fun hd => ?_⟩
   · refine (bound_cmp_spec (hb.le l3) (hr.hi.le (View.le_trans l2 l3)) hzz s2).mono fun v V4 _ hv => ⟨_, hv, ?_⟩
     have hd : s.set.lo.cmp ⟨0, z.re⟩ ≤ 0 := by simpa using hd
     have hd : (endE s.lo).cmp ⟨0, z.re⟩ ≤ 0 := hd
     show Value.bool _ = _
     unfold Sk.has; rw [hc, decide_eq_true hd]; simp; rfl
   · have hd : ¬ s.set.lo.cmp ⟨0, z.re⟩ ≤ 0 := by simpa using hd
     have hd : ¬ (endE s.lo).cmp ⟨0, z.re⟩ ≤ 0 := hd
     unfold Sk.has; rw [decide_eq_false hd]; simp
 · have hc : ¬ z.im = 0 := by simpa using hc
   simp [hc]
theorem Make_spec {V : View} {c d : CxV} (h1 : c.re < 2 ^ 64) (h2 : c.im < 2 ^ 64) (h3 : d.re < 2 ^ 64) (h4 : d.im < 2 ^ 64) : CallV Tryz.prog n_box_Make #[.complex .f64 c.re c.im, .complex .f64 d.re d.im] V fun v _ => v = .tuple #[(mkB c.re c.im d.re d.im).v.val, .int .i64 (mkBE c.re c.im d.re d.im)] := by
 refine box_Make_vc c d V _ ((MakeSpan_spec h1 h3).mono fun v V1 _ hv => ⟨_, _, hv, (MakeSpan_spec h2 h4).mono fun v V2 _ hv => ⟨_, _, hv, fun hc => ?_, fun hc => ?_⟩⟩)
 · have hc : mkE c.re d.re = 1 := by simpa using hc
   have e : mkBE c.re c.im d.re d.im = 1 := by unfold mkBE; rw [if_pos (.inl hc)]
   unfold mkB; rw [e]; rfl
 have c1 : ¬ mkE c.re d.re = 1 := by simpa using hc
 refine ⟨fun hc => ?_, fun hc => ?_⟩
 · have hc : mkE c.im d.im = 1 := by simpa using hc
   have e : mkBE c.re c.im d.re d.im = 1 := by unfold mkBE; rw [if_pos (.inr hc)]
   unfold mkB; rw [e]; rfl
 have c2 : ¬ mkE c.im d.im = 1 := by simpa using hc
 have hno : ¬ (mkE c.re d.re = 1 ∨ mkE c.im d.im = 1) := by rintro (h | h); exact c1 h; exact c2 h
 refine ⟨fun hc => ?_, fun hc => ?_⟩
 · have hc : mkE c.re d.re ≠ 0 := by simpa using hc
   have e : mkBE c.re c.im d.re d.im = 7 := by unfold mkBE; rw [if_neg hno, if_pos (.inl hc)]
   unfold mkB; rw [e]; rfl
 have c3 : ¬ mkE c.re d.re ≠ 0 := by simpa using hc
 refine ⟨fun hc => ?_, fun hc => ?_⟩
 · have hc : mkE c.im d.im ≠ 0 := by simpa using hc
   have e : mkBE c.re c.im d.re d.im = 7 := by unfold mkBE; rw [if_neg hno, if_pos (.inr hc)]
   unfold mkB; rw [e]; rfl
 have c4 : ¬ mkE c.im d.im ≠ 0 := by simpa using hc
 have e : mkBE c.re c.im d.re d.im = 0 := by unfold mkBE; rw [if_neg hno, if_neg]; rintro (h | h); exact c3 h; exact c4 h
 unfold mkB; rw [e]; rfl
theorem Pair_spec {V : View} (s t : SpV) : CallV Tryz.prog n_box_Pair #[s.val, t.val] V fun v _ => v = (BoxV.mk s t).val := box_Pair_vc s t V _ rfl
theorem Lo_spec {V : View} (b : BoxV) : CallV Tryz.prog n_Box_Lo #[b.val] V fun v _ => v = .complex .f64 b.re.lo b.im.lo := Box_Lo_vc b V _ rfl
theorem Hi_spec {V : View} (b : BoxV) : CallV Tryz.prog n_Box_Hi #[b.val] V fun v _ => v = .complex .f64 b.re.hi b.im.hi := Box_Hi_vc b V _ rfl
theorem Box_Has_spec {V : View} {b : Bk} (h : b.ok) {x : NumV} {z : Cq} (hx : NumAt V x z) (hz : z.sz ≤ 2 ^ 39) : CallV Tryz.prog n_Box_Has #[b.v.val, x.val] V fun v _ => v = .bool (b.has z) := by
 have hz1 := re1_sz z; have hz2 := im1_sz z
 refine Box_Has_vc b.v x V _ ((Num_Re_spec hx (by omega)).mono fun v V1 l1 ⟨r, hv, hr⟩ => ⟨r, hv, ?_⟩)
 refine (Has_spec h.re hr (by omega)).mono fun v V2 l2 hv => ⟨_, hv, fun hc => ?_, fun hc => ?_⟩
 · have hc : b.re.has z.re = true := by simpa using hc
   refine (Num_Im_spec (hx.le (View.le_trans l1 l2)) (by omega)).mono fun v V3 l3 ⟨r, hv, hr⟩ => ⟨r, hv, ?_⟩
   refine (Has_spec h.im hr (by omega)).mono fun v V4 l4 hv => ⟨_, hv, ?_⟩
   unfold Bk.has; rw [hc]; simp
 · have hc : b.re.has z.re = false := by simpa using hc
   unfold Bk.has; rw [hc]; simp
theorem Box_Clear_spec {V : View} {b : Bk} (h : b.ok) : CallV Tryz.prog n_Box_Clear #[b.v.val] V fun v _ => v = .bool (!b.has Cq.zero) :=
 Box_Clear_vc b.v V _ ((Box_Has_spec h (NumAt.zero V) (Nat.le_trans Cq.sz_zero (by omega))).mono fun v V1 _ hv => ⟨_, hv, rfl⟩)
theorem add_szle {e f : Es} {S : Nat} (he : Es.szle e S) (hf : Es.szle f S) : Es.szle (e.add f) (2 * S + 1) := by
 have a := he.1; have b := he.2; have c := hf.1; have d := hf.2
 have h1 := sz_add_num e.lo f.lo; have h2 := sz_add_num e.hi f.hi
 exact ⟨show (e.lo.add f.lo).num.sz ≤ _ by omega, show (e.hi.add f.hi).num.sz ≤ _ by omega⟩
theorem neg_szle {e : Es} {S : Nat} (he : Es.szle e S) : Es.szle e.neg S := by
 refine ⟨?_, ?_⟩
 · show e.hi.neg.num.sz ≤ S; rw [sz_neg_num]; exact he.2
 · show e.lo.neg.num.sz ≤ S; rw [sz_neg_num]; exact he.1
theorem mul_szle {e f : Es} {S : Nat} (he : Es.szle e S) (hf : Es.szle f S) : Es.szle (e.mul f) (2 * S + 1) := by
 have hp := prods_sz he hf
 exact ⟨pick_sz (by unfold Es.prods; simp) hp, pick_sz (by unfold Es.prods; simp) hp⟩
theorem Box_Mul_spec {V : View} {b c : Bk} (h : b.ok) (k : c.ok) : CallV Tryz.prog n_Box_Mul #[b.v.val, c.v.val] V fun v _ => v = (b.mul c).v.val := by
 have s1 := set_szle h.re; have s2 := set_szle h.im; have s3 := set_szle k.re; have s4 := set_szle k.im
 refine Box_Mul_vc b.v c.v V _ ((set_spec h.re).mono fun v V1 l1 ⟨p, hv, hp⟩ => ⟨p, hv, ?_⟩)
 refine (set_spec h.im).mono fun v V2 l2 ⟨q, hv, hq⟩ => ⟨q, hv, ?_⟩
 refine (set_spec k.re).mono fun v V3 l3 ⟨r, hv, hr⟩ => ⟨r, hv, ?_⟩
 refine (set_spec k.im).mono fun v V4 l4 ⟨s, hv, hs⟩ => ⟨s, hv, ?_⟩
 replace hp := hp.le (View.le_trans l2 (View.le_trans l3 l4)); replace hq := hq.le (View.le_trans l3 l4); replace hr := hr.le l4
 refine (set_mul_spec hp hr s1 s3 (by omega)).mono fun v V5 l5 ⟨x5, hv, h5⟩ => ⟨x5, hv, ?_⟩
 replace hp := hp.le l5; replace hq := hq.le l5; replace hr := hr.le l5; replace hs := hs.le l5
 refine (set_mul_spec hq hs s2 s4 (by omega)).mono fun v V6 l6 ⟨x6, hv, h6⟩ => ⟨x6, hv, ?_⟩
 replace hp := hp.le l6; replace hq := hq.le l6; replace hr := hr.le l6; replace hs := hs.le l6; replace h5 := h5.le l6
 refine (set_neg_spec h6).mono fun v V7 l7 ⟨x7, hv, h7⟩ => ⟨x7, hv, ?_⟩
 replace hp := hp.le l7; replace hq := hq.le l7; replace hr := hr.le l7; replace hs := hs.le l7; replace h5 := h5.le l7
 refine (set_add_spec h5 h7 (mul_szle s1 s3) (neg_szle (mul_szle s2 s4)) (by omega)).mono fun v V8 l8 ⟨x8, hv, h8⟩ => ⟨x8, hv, ?_⟩
 replace hp := hp.le l8; replace hq := hq.le l8; replace hr := hr.le l8; replace hs := hs.le l8
 refine (set_span_spec h8 (add_szle (mul_szle s1 s3) (neg_szle (mul_szle s2 s4))) (by omega)).mono fun v V9 l9 hv => ⟨_, hv, ?_⟩
 replace hp := hp.le l9; replace hq := hq.le l9; replace hr := hr.le l9; replace hs := hs.le l9
 refine (set_mul_spec hp hs s1 s4 (by omega)).mono fun v V10 l10 ⟨x10, hv, h10⟩ => ⟨x10, hv, ?_⟩
 replace hq := hq.le l10; replace hr := hr.le l10
 refine (set_mul_spec hq hr s2 s3 (by omega)).mono fun v V11 l11 ⟨x11, hv, h11⟩ => ⟨x11, hv, ?_⟩
 refine (set_add_spec (h10.le l11) h11 (mul_szle s1 s4) (mul_szle s2 s3) (by omega)).mono fun v V12 l12 ⟨x12, hv, h12⟩ => ⟨x12, hv, ?_⟩
 exact (set_span_spec h12 (add_szle (mul_szle s1 s4) (mul_szle s2 s3)) (by omega)).mono fun v V13 _ hv => ⟨_, hv, rfl⟩
theorem Bk.mul_ok (b c : Bk) : (b.mul c).ok := ⟨Es.span_ok _, Es.span_ok _⟩

def GrowB (V : View) (n cap : Nat) (o : List Value) (es : List Eb) : Prop := ∃ l, LstOk 6 n cap o l ∧ Cells 6 bdC V l es ∧ n = es.length
theorem GrowB.le {V V' : View} (hle : V.le V') {n cap : Nat} {o : List Value} {es : List Eb} (h : GrowB V n cap o es) : GrowB V' n cap o es := by
 obtain ⟨l, h1, h2, h3⟩ := h; exact ⟨l, h1, h2.imp (bdC.le hle), h3⟩
theorem oneCell_bd (r : BdV) : ∀ v ∈ [Value.int .i64 r.inf, .bool r.x.re.neg, r.x.re.mag.v, .bool r.x.im.neg, r.x.im.mag.v, r.x.under.v], Value.oneCell' v = true := by
 intro v hv
 simp only [List.mem_cons, List.not_mem_nil, or_false] at hv
 rcases hv with rfl | rfl | rfl | rfl | rfl | rfl <;> rfl
theorem has_bd {V : View} {b : Nat} {l : List Value} (h : V b = some l.toArray) : V.has (some (Addr.mk b 0 none)) l := by
 intro j v hj
 rw [load_block h]
 simpa using hj
theorem GrowB.push {V1 : View} {n cap : Nat} {o : List Value} {es : List Eb} {r : BdV} {e : Eb} {b : Nat} {R : Nat → Nat → List Value → View → Prop} (h : GrowB V1 n cap o es) (hr : BdAt V1 r e) (hl : es.length ≤ 2 ^ 20)
 (hb : V1 b = some #[.int .i64 r.inf, .bool r.x.re.neg, r.x.re.mag.v, .bool r.x.im.neg, r.x.im.mag.v, r.x.under.v]) (hR : ∀ c l3, GrowB V1 (n + 1) c l3 (es ++ [e]) → R (n + 1) c l3 V1) :
 ∃ (l1 l2 : List Value), LstOk 6 n cap o l1 ∧ View.has V1 (some (Addr.mk b 0 none)) l2 ∧ List.length l2 = 1 * 6 ∧ (∀ v ∈ l2, Value.oneCell' v = true) ∧ n + 1 ≤ maxLen ∧ (n + 1) * 96 ≤ 140737488355328 ∧
  ∀ (c1 : Nat) (l3 : List Value), LstOk 6 (n + 1) c1 l3 (l1 ++ l2) → R (n + 1) c1 l3 V1 := by
 obtain ⟨l, h1, h2, h3⟩ := h
 refine ⟨l, _, h1, has_bd (l := [.int .i64 r.inf, .bool r.x.re.neg, r.x.re.mag.v, .bool r.x.im.neg, r.x.im.mag.v, r.x.under.v]) hb, rfl, oneCell_bd r, Nat.le_trans (show n + 1 ≤ 2 ^ 20 + 1 by omega) (by decide), by omega, fun c1 l3 hl3 => hR _ _ ⟨_, hl3, ?_, by simp; omega⟩⟩
 exact Cells.append h2 (Cells.one rfl ⟨r, rfl, hr⟩)
theorem share_div (a b : Rat) : (⟨a, 0⟩ : Cq).div (⟨a, 0⟩ * ⟨a, 0⟩ + ⟨b, 0⟩ * ⟨b, 0⟩) = ⟨a / (a * a + b * b), 0⟩ := by
 rw [Cq.num_mul, Cq.num_mul, Cq.num_add]
 refine Cq.ext' ?_ ?_
 · show (a * (a * a + b * b) + 0 * 0) / ((a * a + b * b) * (a * a + b * b) + 0 * 0) = a / (a * a + b * b)
   by_cases h : a * a + b * b = 0
   · rw [h]; simp [Rat.div_def]; try grind
   · grind
 · show (0 * (a * a + b * b) - a * 0) / ((a * a + b * b) * (a * a + b * b) + 0 * 0) = 0
   have e : 0 * (a * a + b * b) - a * 0 = (0 : Rat) := by grind
   rw [e, Rat.div_def]; grind
theorem shareV_sz {a b : Eb} {S : Nat} (ha : a.num.sz ≤ S) (hb : b.num.sz ≤ S) : (shareV a b).num.sz ≤ 32 * S + 40 := by
 unfold shareV; split
 · have := Cq.sz_zero; show Cq.zero.sz ≤ _; omega
 · show (⟨a.x / (a.x * a.x + b.x * b.x), 0⟩ : Cq).sz ≤ _
   rw [← share_div]
   have h1 := Cq.sz_mul a.num a.num; have h2 := Cq.sz_mul b.num b.num; have h3 := Cq.sz_add (a.num * a.num) (b.num * b.num)
   have h4 := div_sz (z := a.num) (w := a.num * a.num + b.num * b.num) (S := 4 * S + 4) (by omega) (by omega)
   exact Nat.le_trans h4 (by omega)
theorem share_1_spec {V : View} {a b : BdV} {e f : Eb} {n cap : Nat} {o : List Value} {es : List Eb} (ha : BdAt V a e) (hb : BdAt V b f) (he : e.num.sz ≤ 2 ^ 30) (hf : f.num.sz ≤ 2 ^ 30) (h : GrowB V n cap o es) (hl : es.length ≤ 2 ^ 20) :
 CallC Tryz.prog n_box_share_1 ([a.val, b.val] : List Value) box_share_1_ht box_share_1_el n cap o V fun n' cap' o' V' => GrowB V' n' cap' o' (es ++ [shareV e f]) := by
 have iz : ∀ {V1 : View}, BdAt V1 (BdV.mk 0 (NumV.mk (WhV.mk false (Sl.mk none 0 0)) (WhV.mk false (Sl.mk none 0 0)) (Sl.mk none 0 0))) ⟨0, 0⟩ := BdAt.zero _
 refine box_share_1_vc n cap o a b V _ ⟨fun hc b1 V1 l1 _ hb1 => ?_, fun hc => ⟨fun hd b1 V1 l1 _ hb1 => ?_, fun hd => ?_⟩⟩
 · have hc : e.inf ≠ 0 := by rw [← ha.inf]; simpa using hc
   have e1 : shareV e f = ⟨0, 0⟩ := by unfold shareV; rw [if_pos (.inl hc)]
   rw [e1]
   exact (h.le l1).push (R := fun n' cap' o' V' => GrowB V' n' cap' o' (es ++ [⟨0, 0⟩])) (r := BdV.mk 0 (NumV.mk (WhV.mk false (Sl.mk none 0 0)) (WhV.mk false (Sl.mk none 0 0)) (Sl.mk none 0 0))) iz hl hb1 fun _ _ h => h
 · have hd : f.inf ≠ 0 := by rw [← hb.inf]; simpa using hd
   have e1 : shareV e f = ⟨0, 0⟩ := by unfold shareV; rw [if_pos (.inr hd)]
   rw [e1]
   exact (h.le l1).push (R := fun n' cap' o' V' => GrowB V' n' cap' o' (es ++ [⟨0, 0⟩])) (r := BdV.mk 0 (NumV.mk (WhV.mk false (Sl.mk none 0 0)) (WhV.mk false (Sl.mk none 0 0)) (Sl.mk none 0 0))) iz hl hb1 fun _ _ h => h
 · have hc : ¬ e.inf ≠ 0 := by rw [← ha.inf]; simpa using hc
   have hd : ¬ f.inf ≠ 0 := by rw [← hb.inf]; simpa using hd
   have s1 := Cq.sz_mul e.num e.num; have s2 := Cq.sz_mul f.num f.num; have s3 := Cq.sz_add (e.num * e.num) (f.num * f.num)
   refine (Num_Mul_spec ha.num ha.num (by omega) (by omega)).mono fun v V1 l1 ⟨r1, hv, h1⟩ => ⟨r1, hv, ?_⟩
   refine (Num_Mul_spec (hb.num.le l1) (hb.num.le l1) (by omega) (by omega)).mono fun v V2 l2 ⟨r2, hv, h2⟩ => ⟨r2, hv, ?_⟩
   refine (Num_Add_spec (h1.le l2) h2 (by omega) (by omega)).mono fun v V3 l3 ⟨r3, hv, h3⟩ => ⟨r3, hv, ?_⟩
   have L3 := View.le_trans l1 (View.le_trans l2 l3)
   refine (Num_Div_spec (ha.num.le L3) h3 (by omega) (by omega)).mono fun v V4 l4 ⟨r4, er, hv, hz, hn⟩ => ⟨r4, er, hv, fun b1 V5 l5 _ hb1 => ?_⟩
   have h4 : NumAt V4 r4 (shareV e f).num := by
    have e1 : (shareV e f).num = e.num.div (e.num * e.num + f.num * f.num) := by
     unfold shareV; rw [if_neg (by rintro (h | h); exact hc h; exact hd h)]; exact (share_div e.x f.x).symm
    rw [e1]
    by_cases h0 : e.num * e.num + f.num * f.num = Cq.zero
    · have := (hz h0).2
      have e2 : e.num.div (e.num * e.num + f.num * f.num) = Cq.zero := by
       rw [h0]; refine Cq.ext' ?_ ?_
       · show (_ : Rat) / (0 * 0 + 0 * 0) = 0; simp [Rat.div_def]; try grind
       · show (_ : Rat) / (0 * 0 + 0 * 0) = 0; simp [Rat.div_def]; try grind
      rw [e2]; exact this
    · exact (hn h0).2
   have hi : (shareV e f).inf = 0 := by unfold shareV; split <;> rfl
   have h5 : BdAt V5 (BdV.mk 0 r4) (shareV e f) := ⟨hi.symm, h4.le l5, .inl hi⟩
   exact (h.le (View.le_trans L3 (View.le_trans l4 l5))).push (R := fun n' cap' o' V' => GrowB V' n' cap' o' (es ++ [shareV e f])) (r := BdV.mk 0 r4) h5 hl hb1 fun _ _ h => h
theorem two_bds {V : View} {b : Nat} {r1 r2 : BdV} {e1 e2 : Eb} (h1 : BdAt V r1 e1) (h2 : BdAt V r2 e2)
 (hb : V b = some #[.int .i64 r1.inf, .bool r1.x.re.neg, r1.x.re.mag.v, .bool r1.x.im.neg, r1.x.im.mag.v, r1.x.under.v, .int .i64 r2.inf, .bool r2.x.re.neg, r2.x.re.mag.v, .bool r2.x.im.neg, r2.x.im.mag.v, r2.x.under.v]) :
 BdsAt V ⟨some ⟨b, 0, none⟩, 2, 2⟩ [e1, e2] :=
 ListAt.of_made (o := r1.val.cells.toList ++ (r2.val.cells.toList ++ [])) hb ⟨_, _, rfl, rfl, ⟨r1, rfl, h1⟩, _, _, rfl, rfl, ⟨r2, rfl, h2⟩, rfl⟩ rfl
theorem two_get {V : View} {b : Nat} {e1 e2 : Eb} (h : BdsAt V ⟨some ⟨b, 0, none⟩, 2, 2⟩ [e1, e2]) {i : Nat} (hi : i < 2) :
 ((0 : Int) ≤ (i : Int) ∧ (i : Int) < (2 : Nat) ∧ Option.isSome (some (Addr.mk b 0 none)) = true) ∧
 ∃ x : BdV, View.has V (Option.map (fun q => Addr.add q (Int.toNat (i : Int) * 6)) (some (Addr.mk b 0 none))) (x.val).cells.toList ∧ Option.isSome (Option.map (fun q => Addr.add q (Int.toNat (i : Int) * 6)) (some (Addr.mk b 0 none))) = true ∧ BdAt V x (at2 e1 e2 i) := by
 obtain ⟨hb, x, ⟨b0, hx, hb0⟩, _, hh, hs⟩ := ListAt.get h (t := (i : Int)) (by omega) (z := at2 e1 e2 i) (by
  rw [Int.toNat_natCast]
  rcases (by omega : i = 0 ∨ i = 1) with rfl | rfl <;> rfl)
 exact ⟨hb, b0, hx ▸ hh, hs, hb0⟩
theorem at2_sz {e1 e2 : Eb} {S i : Nat} (h1 : e1.num.sz ≤ S) (h2 : e2.num.sz ≤ S) : (at2 e1 e2 i).num.sz ≤ S := by
 cases i with
 | zero => exact h1
 | succ i => exact h2
theorem share_szs18 {x y : Es} (sx : Es.szle x (2 ^ 12)) (sy : Es.szle y (2 ^ 12)) : ∀ e ∈ shareL x y, e.num.sz ≤ 2 ^ 18 := by
 have v : ∀ {a b : Eb}, a.num.sz ≤ 2 ^ 12 → b.num.sz ≤ 2 ^ 12 → (shareV a b).num.sz ≤ 2 ^ 18 := fun ha hb => Nat.le_trans (shareV_sz ha hb) (by omega)
 have z : (Eb.fin 0).num.sz ≤ 2 ^ 12 := Nat.le_trans zero_sz (by omega)
 have A : ∀ {a : Eb}, a.num.sz ≤ 2 ^ 12 → ∀ e ∈ rowA y a, e.num.sz ≤ 2 ^ 18 := by
  intro a ha e he
  unfold rowA rowZ at he
  split at he
  · simp only [List.cons_append, List.nil_append, List.mem_cons, List.not_mem_nil, or_false] at he
    rcases he with rfl | rfl | rfl
    · exact v ha sy.1
    · exact v ha sy.2
    · exact v ha z
  · simp only [List.append_nil, List.mem_cons, List.not_mem_nil, or_false] at he
    rcases he with rfl | rfl
    · exact v ha sy.1
    · exact v ha sy.2
 have C : ∀ {b a : Eb}, b.num.sz ≤ 2 ^ 12 → a.num.sz ≤ 2 ^ 12 → ∀ e ∈ colB x b a, e.num.sz ≤ 2 ^ 18 := by
  intro b a hb ha e he
  unfold colB at he
  split at he
  · simp only [List.mem_cons, List.not_mem_nil, or_false] at he
    subst he; exact v ha hb
  · simp at he
 have B : ∀ {b : Eb}, b.num.sz ≤ 2 ^ 12 → ∀ e ∈ rowB x b, e.num.sz ≤ 2 ^ 18 := by
  intro b hb e he
  unfold rowB at he
  rcases List.mem_append.1 he with h | h
  · exact C hb hb e h
  · exact C hb (by rw [sz_neg_num]; exact hb) e h
 intro e he
 simp only [shareL, preB, preA] at he
 rcases List.mem_append.1 he with h | h
 · rcases List.mem_append.1 h with h | h
   · exact A sx.1 e h
   · exact A sx.2 e h
 · rcases List.mem_append.1 h with h | h
   · exact B sy.1 e h
   · exact B sy.2 e h
theorem share_szs {x y : Es} (sx : Es.szle x (2 ^ 12)) (sy : Es.szle y (2 ^ 12)) : ∀ e ∈ shareL x y, e.num.sz ≤ 2 ^ 40 := fun e he => Nat.le_trans (share_szs18 sx sy e he) (by omega)
theorem share_spec {V : View} {s t : SetV} {x y : Es} (hx : EsAt V s x) (hy : EsAt V t y) (sx : Es.szle x (2 ^ 12)) (sy : Es.szle y (2 ^ 12)) :
 CallV Tryz.prog n_box_share #[s.val, t.val] V fun v V' => ∃ r : SetV, v = r.val ∧ EsAt V' r (x.share y) := by
 refine box_share_vc s t V _
  (fun _ w V' => ∃ i : Nat, i ≤ 2 ∧ w.t22 = i ∧ GrowB V' w.o5_0l w.o5_0c w.o6 (preA x y i)) (fun _ w _ => (2 - w.t22).toNat)
  (fun c w V' => ∃ j : Nat, j ≤ 2 ∧ w.t32 = j ∧ GrowB V' w.o5_0l w.o5_0c w.o6 (preA x y c.t22.toNat ++ inA y (at2 x.lo x.hi c.t22.toNat) j)) (fun _ w _ => (2 - w.t32).toNat)
  (fun _ w V' => ∃ i : Nat, i ≤ 2 ∧ w.t59 = i ∧ GrowB V' w.o5_0l w.o5_0c w.o6 (preB x y i)) (fun _ w _ => (2 - w.t59).toNat)
  (fun c w V' => ∃ j : Nat, j ≤ 2 ∧ w.t68 = j ∧ GrowB V' w.o5_0l w.o5_0c w.o6 (preB x y c.t59.toNat ++ inB x (at2 y.lo y.hi c.t59.toNat) j)) (fun _ w _ => (2 - w.t68).toNat) ?_
 intro b1 V1 l1 _ hb1
 replace hx := hx.le l1; replace hy := hy.le l1
 have hxs := two_bds hx.lo hx.hi hb1
 refine ⟨⟨0, by omega, rfl, [], LstOk.nil, rfl, rfl⟩, ?_⟩
 rintro ⟨t22, o4, o5l, o5c, o6⟩ V2 l2 ⟨i, hi, rfl, hg⟩
 dsimp only at hg ⊢
 have big : ∀ {e : Eb}, e.num.sz ≤ 2 ^ 12 → e.num.sz ≤ 2 ^ 30 := fun h => Nat.le_trans h (by omega)
 have big40 : ∀ {e : Eb}, e.num.sz ≤ 2 ^ 12 → e.num.sz ≤ 2 ^ 40 := fun h => Nat.le_trans h (by omega)
 refine ⟨fun hlt => ?_, fun hge => ?_⟩
 · simp only [decide_eq_true_eq] at hlt
   have hi2 : i < 2 := by omega
   obtain ⟨hb, x3, hh, hs, hx3⟩ := two_get (hxs.le l2) hi2
   have sx3 : (at2 x.lo x.hi i).num.sz ≤ 2 ^ 12 := at2_sz sx.1 sx.2
   refine ⟨hb, x3, hh, hs, fun b2 V3 l3 _ hb2 => ?_⟩
   have hys := two_bds (hy.lo.le (View.le_trans l2 l3)) (hy.hi.le (View.le_trans l2 l3)) hb2
   refine ⟨⟨0, by omega, rfl, ?_⟩, ?_⟩
   · rw [Int.toNat_natCast]; simpa [inA] using hg.le l3
   rintro ⟨t32, q5l, q5c, q6⟩ V4 l4 ⟨j, hj, rfl, hg2⟩
   dsimp only at hg2 ⊢
   rw [Int.toNat_natCast] at hg2
   have L34 := View.le_trans l3 l4
   have ln1 := preA_len x y i; have ln2 := inA_len y (at2 x.lo x.hi i) j
   refine ⟨fun hlt2 => ?_, fun hge2 => ?_⟩
   · simp only [decide_eq_true_eq] at hlt2
     have hj2 : j < 2 := by omega
     obtain ⟨hb', x6, hh', hs', hx6⟩ := two_get (hys.le l4) hj2
     refine ⟨hb', x6, hh', hs', ?_⟩
     refine (share_1_spec (hx3.le L34) hx6 (big sx3) (big (at2_sz sy.1 sy.2)) hg2 (by simp only [List.length_append]; omega)).mono fun n' c' o' V5 l5 _ hg3 => ?_
     rw [i64w (by omega) (by omega)]
     rw [List.append_assoc, inA_succ y _ hj2] at hg3
     refine ⟨⟨j + 1, by omega, by simp, ?_⟩, ?_⟩
     · rw [Int.toNat_natCast]; exact hg3
     · omega
   · simp only [decide_eq_false_iff_not] at hge2
     have hj2 : j = 2 := by omega
     subst hj2
     have done : ∀ {V' : View} {n c : Nat} {o : List Value}, GrowB V' n c o (preA x y i ++ inA y (at2 x.lo x.hi i) 2 ++ rowZ y (at2 x.lo x.hi i)) → ∃ i' : Nat, i' ≤ 2 ∧ (i : Int) + 1 = i' ∧ GrowB V' n c o (preA x y i') := by
      intro V' n c o h
      refine ⟨i + 1, by omega, by simp, ?_⟩
      rw [← preA_succ x y hi2]
      rw [List.append_assoc] at h; exact h
     have hy4 := hy.le (View.le_trans l2 L34)
     refine (set_zero_spec hy4 sy (by omega)).mono fun v V6 l6 hv => ⟨_, hv, fun hc => ?_, fun hc => ?_⟩
     · have hx3' := hx3.le (View.le_trans L34 l6)
       refine (bound_sign_spec hx3' (big40 sx3)).mono fun v V7 l7 hv => ⟨_, hv, fun hd => ?_, fun hd => ?_⟩
       · have hd : (at2 x.lo x.hi i).sign ≠ 0 := by simpa using hd
         refine (share_1_spec (hx3'.le l7) (BdAt.zero V7) (big sx3) (Nat.le_trans zero_sz (by omega)) (hg2.le (View.le_trans l6 l7)) (by simp only [List.length_append]; omega)).mono fun n' c' o' V8 l8 _ hg3 => ?_
         rw [i64w (by omega) (by omega)]
         refine ⟨done ?_, by omega⟩
         have : rowZ y (at2 x.lo x.hi i) = [shareV (at2 x.lo x.hi i) (Eb.fin 0)] := by unfold rowZ; rw [if_pos ⟨hc, hd⟩]
         rw [this]; exact hg3
       · have hd : (at2 x.lo x.hi i).sign = 0 := by simpa using hd
         rw [i64w (by omega) (by omega)]
         refine ⟨done ?_, by omega⟩
         have : rowZ y (at2 x.lo x.hi i) = [] := by unfold rowZ; rw [if_neg (fun h => h.2 hd)]
         rw [this, List.append_nil]; exact hg2.le (View.le_trans l6 l7)
     · rw [i64w (by omega) (by omega)]
       refine ⟨done ?_, by omega⟩
       have : rowZ y (at2 x.lo x.hi i) = [] := by unfold rowZ; rw [if_neg (fun h => by rw [hc] at h; simp at h)]
       rw [this, List.append_nil]; exact hg2.le l6
 · simp only [decide_eq_false_iff_not] at hge
   have hi2 : i = 2 := by omega
   subst hi2
   intro b3 V9 l9 _ hb3
   replace hx := hx.le (View.le_trans l2 l9); replace hy := hy.le (View.le_trans l2 l9)
   have hys := two_bds hy.lo hy.hi hb3
   refine ⟨⟨0, by omega, rfl, hg.le l9⟩, ?_⟩
   rintro ⟨t59, r4, r5l, r5c, r6⟩ V10 l10 ⟨k, hk, rfl, hgk⟩
   dsimp only at hgk ⊢
   refine ⟨fun hlt => ?_, fun hge => ?_⟩
   · simp only [decide_eq_true_eq] at hlt
     have hk2 : k < 2 := by omega
     obtain ⟨hb, x13, hh, hs, hx13⟩ := two_get (hys.le l10) hk2
     have s13 : (at2 y.lo y.hi k).num.sz ≤ 2 ^ 12 := at2_sz sy.1 sy.2
     refine ⟨hb, x13, hh, hs, ?_⟩
     refine (bound_neg_spec hx13).mono fun v V11 l11 ⟨r3, hv, hr3⟩ => ⟨r3, hv, fun b4 V12 l12 _ hb4 => ?_⟩
     have hzs := two_bds (hx13.le (View.le_trans l11 l12)) (hr3.le l12) hb4
     have sn : (at2 y.lo y.hi k).neg.num.sz ≤ 2 ^ 12 := by rw [sz_neg_num]; exact s13
     refine ⟨⟨0, by omega, rfl, ?_⟩, ?_⟩
     · rw [Int.toNat_natCast]; simpa [inB] using hgk.le (View.le_trans l11 l12)
     rintro ⟨t68, q5l, q5c, q6⟩ V13 l13 ⟨j, hj, rfl, hg2⟩
     dsimp only at hg2 ⊢
     rw [Int.toNat_natCast] at hg2
     have L := View.le_trans l10 (View.le_trans l11 (View.le_trans l12 l13))
     have hx13' := hx13.le (View.le_trans l11 (View.le_trans l12 l13))
     have ln1 := preB_len x y k; have ln2 := inB_len x (at2 y.lo y.hi k) j
     refine ⟨fun hlt2 => ?_, fun hge2 => ?_⟩
     · simp only [decide_eq_true_eq] at hlt2
       have hj2 : j < 2 := by omega
       obtain ⟨hb', x16, hh', hs', hx16⟩ := two_get (hzs.le l13) hj2
       have s16 : (at2 (at2 y.lo y.hi k) (at2 y.lo y.hi k).neg j).num.sz ≤ 2 ^ 12 := at2_sz s13 sn
       refine ⟨hb', x16, hh', hs', ?_⟩
       have stay : ∀ {V' : View} {n c : Nat} {o : List Value}, GrowB V' n c o (preB x y k ++ inB x (at2 y.lo y.hi k) j ++ colB x (at2 y.lo y.hi k) (at2 (at2 y.lo y.hi k) (at2 y.lo y.hi k).neg j)) →
        ∃ j' : Nat, j' ≤ 2 ∧ (j : Int) + 1 = j' ∧ GrowB V' n c o (preB x y (Int.toNat (k : Int)) ++ inB x (at2 y.lo y.hi (Int.toNat (k : Int))) j') := by
        intro V' n c o h
        rw [Int.toNat_natCast]
        refine ⟨j + 1, by omega, by simp, ?_⟩
        rw [List.append_assoc, inB_succ x _ hj2] at h; exact h
       have none : ∀ {V' : View}, V13.le V' → ¬ ((at2 y.lo y.hi k).inf = 0 ∧ (at2 y.lo y.hi k).sign ≠ 0 ∧ x.lo.cmp (at2 (at2 y.lo y.hi k) (at2 y.lo y.hi k).neg j) ≤ 0 ∧ (at2 (at2 y.lo y.hi k) (at2 y.lo y.hi k).neg j).cmp x.hi ≤ 0) →
        GrowB V' q5l q5c q6 (preB x y k ++ inB x (at2 y.lo y.hi k) j ++ colB x (at2 y.lo y.hi k) (at2 (at2 y.lo y.hi k) (at2 y.lo y.hi k).neg j)) := by
        intro V' hle hn
        have : colB x (at2 y.lo y.hi k) (at2 (at2 y.lo y.hi k) (at2 y.lo y.hi k).neg j) = [] := by unfold colB; rw [if_neg hn]
        rw [this, List.append_nil]; exact hg2.le hle
       refine ⟨fun ha => ?_, fun ha => ?_⟩
       · have ha : (at2 y.lo y.hi k).inf = 0 := by rw [← hx13.inf]; simpa using ha
         refine (bound_sign_spec hx13' (big40 s13)).mono fun v V14 l14 hv => ⟨_, hv, fun hc => ?_, fun hc => ?_⟩
         · have hc : (at2 y.lo y.hi k).sign ≠ 0 := by simpa using hc
           refine (bound_cmp_spec (hx.lo.le (View.le_trans L l14)) (hx16.le l14) (big40 sx.1) (big40 s16)).mono fun v V15 l15 hv => ⟨_, hv, fun hd => ?_, fun hd => ?_⟩
           · have hd : x.lo.cmp (at2 (at2 y.lo y.hi k) (at2 y.lo y.hi k).neg j) ≤ 0 := by simpa using hd
             have M := View.le_trans l14 l15
             refine (bound_cmp_spec (hx16.le M) (hx.hi.le (View.le_trans L M)) (big40 s16) (big40 sx.2)).mono fun v V16 l16 hv => ⟨_, hv, fun he => ?_, fun he => ?_⟩
             · have he : (at2 (at2 y.lo y.hi k) (at2 y.lo y.hi k).neg j).cmp x.hi ≤ 0 := by simpa using he
               have M2 := View.le_trans M l16
               refine (share_1_spec (hx16.le M2) (hx13'.le M2) (big s16) (big s13) (hg2.le M2) (by simp only [List.length_append]; omega)).mono fun n' c' o' V17 l17 _ hg3 => ?_
               rw [i64w (by omega) (by omega)]
               refine ⟨stay ?_, by omega⟩
               have : colB x (at2 y.lo y.hi k) (at2 (at2 y.lo y.hi k) (at2 y.lo y.hi k).neg j) = [shareV (at2 (at2 y.lo y.hi k) (at2 y.lo y.hi k).neg j) (at2 y.lo y.hi k)] := by unfold colB; rw [if_pos ⟨ha, hc, hd, he⟩]
               rw [this]; exact hg3
             · have he : ¬ (at2 (at2 y.lo y.hi k) (at2 y.lo y.hi k).neg j).cmp x.hi ≤ 0 := by simpa using he
               rw [i64w (by omega) (by omega)]
               exact ⟨stay (none (View.le_trans M l16) fun h => he h.2.2.2), by omega⟩
           · have hd : ¬ x.lo.cmp (at2 (at2 y.lo y.hi k) (at2 y.lo y.hi k).neg j) ≤ 0 := by simpa using hd
             rw [i64w (by omega) (by omega)]
             exact ⟨stay (none (View.le_trans l14 l15) fun h => hd h.2.2.1), by omega⟩
         · have hc : (at2 y.lo y.hi k).sign = 0 := by simpa using hc
           rw [i64w (by omega) (by omega)]
           exact ⟨stay (none l14 fun h => h.2.1 hc), by omega⟩
       · have ha : ¬ (at2 y.lo y.hi k).inf = 0 := by rw [← hx13.inf]; simpa using ha
         rw [i64w (by omega) (by omega)]
         exact ⟨stay (none (View.le_refl V13) fun h => ha h.1), by omega⟩
     · simp only [decide_eq_false_iff_not] at hge2
       have hj2 : j = 2 := by omega
       subst hj2
       rw [i64w (by omega) (by omega)]
       refine ⟨⟨k + 1, by omega, by simp, ?_⟩, by omega⟩
       rw [← preB_succ x y hk2]; exact hg2
   · simp only [decide_eq_false_iff_not] at hge
     have hk2 : k = 2 := by omega
     subst hk2
     intro b5 V18 l18 hb5
     obtain ⟨o, ho, hcs, hn⟩ := hgk.le l18
     have hL : BdsAt V18 ⟨lstA b5 r5c, r5l, r5c⟩ (shareL x y) := ListAt.of_lst ho hb5 hcs hn
     have hlen := preB_len x y 2
     have hsz := share_szs (x := x) (y := y) sx sy
     refine (least_spec hL (shareL_ne x y) (Nat.le_trans hlen (by omega)) hsz).mono fun v V19 l19 ⟨r7, hv, h7⟩ => ⟨r7, hv, ?_⟩
     exact (greatest_spec (hL.le l19) (shareL_ne x y) (Nat.le_trans hlen (by omega)) hsz).mono fun v V20 l20 ⟨r8, hv, h8⟩ => ⟨r8, hv, _, rfl, h7.le l20, h8⟩
theorem share_szle {x y : Es} (sx : Es.szle x (2 ^ 12)) (sy : Es.szle y (2 ^ 12)) : Es.szle (x.share y) (2 ^ 18) :=
 ⟨pick_sz (shareL_ne x y) (share_szs18 sx sy), pick_sz (shareL_ne x y) (share_szs18 sx sy)⟩

theorem szle12 {s : Sk} (h : s.ok) : Es.szle s.set (2 ^ 12) := ⟨Nat.le_trans (endE_sz h.lo) (by omega), Nat.le_trans (endE_sz h.hi) (by omega)⟩
theorem Box_Inv_spec {V : View} {b : Bk} (h : b.ok) : CallV Tryz.prog n_Box_Inv #[b.v.val] V fun v _ => v = .tuple #[b.inv.v.val, .int .i64 b.invE] := by
 refine Box_Inv_vc b.v V _ ((Box_Clear_spec h).mono fun v V1 _ hv => ⟨_, hv, fun hc => ?_, fun hc => ?_⟩)
 · have hc : b.clear = false := by unfold Bk.clear; simpa using hc
   unfold Bk.inv Bk.invE; rw [hc]; rfl
 · have hc : b.clear = true := by unfold Bk.clear; simpa using hc
   have s1 := szle12 h.re; have s2 := szle12 h.im
   refine (set_spec h.re).mono fun v V2 l2 ⟨x, hv, hx⟩ => ⟨x, hv, (set_spec h.im).mono fun v V3 l3 ⟨y, hv, hy⟩ => ⟨y, hv, ?_⟩⟩
   refine (share_spec (hx.le l3) hy s1 s2).mono fun v V4 l4 ⟨r, hv, hr⟩ => ⟨r, hv, ?_⟩
   refine (set_span_spec hr (share_szle s1 s2) (by omega)).mono fun v V5 l5 hv => ⟨_, hv, ?_⟩
   have L := View.le_trans l4 l5
   refine (share_spec (hy.le L) (hx.le (View.le_trans l3 L)) s2 s1).mono fun v V6 l6 ⟨q, hv, hq⟩ => ⟨q, hv, ?_⟩
   refine (set_neg_spec hq).mono fun v V7 l7 ⟨p, hv, hp⟩ => ⟨p, hv, ?_⟩
   refine (set_span_spec hp (neg_szle (share_szle s2 s1)) (by omega)).mono fun v V8 l8 hv => ⟨_, hv, ?_⟩
   unfold Bk.inv Bk.invE; rw [hc]; rfl
theorem awake_spec {V : View} : CallV Tryz.prog n_law2_awake #[] V fun v _ => v = .bool true := by
 refine law2_awake_vc V _ ?_
 refine (Make_spec (c := CxV.mk 4607182418800017408 0) (d := CxV.mk 4611686018427387904 4607182418800017408) (by decide) (by decide) (by decide) (by decide)).mono fun v V1 _ hv => ⟨awB.v, 0, ?_, ?_⟩
 · rw [hv]
   show Value.tuple #[(mkB 4607182418800017408 0 4611686018427387904 4607182418800017408).v.val, .int .i64 (mkBE 4607182418800017408 0 4611686018427387904 4607182418800017408)] = _
   rw [aw_make.1, aw_make.2]
 have ok : awB.ok := by rw [← aw_make.1]; exact mkB_ok _ _ _ _
 have okP : awP.ok := by rw [← aw_mul]; exact Bk.mul_ok _ _
 refine (Box_Inv_spec ok).mono fun v V2 _ hv => ⟨awB.invB.v, 0, ?_, ?_⟩
 · rw [hv]; unfold Bk.inv Bk.invE; rw [aw_clear.1]; rfl
 refine (Box_Mul_spec ok ok).mono fun v V3 _ hv => ⟨awP.v, by rw [hv, aw_mul], ⟨fun _ => ⟨fun _ => ?_, fun h => absurd h (by decide)⟩, fun h => absurd h (by decide)⟩⟩
 refine (Lo_spec awP.v).mono fun v V4 _ hv => ⟨CxV.mk 0 0, hv, fun _ => ?_, fun h => absurd h (by decide +kernel)⟩
 refine (Hi_spec awP.v).mono fun v V5 _ hv => ⟨CxV.mk 4616189618054758400 4616189618054758400, hv, fun _ => ?_, fun h => absurd h (by decide +kernel)⟩
 have e1 : awB.invB.v.im.lo = 13826050856027422720 := by show wordK awB.invB.im.lo = _; rw [aw_inv.1]; decide
 have e2 : awB.invB.v.re.hi = 4607182418800017408 := by show wordK awB.invB.re.hi = _; rw [aw_inv.2]; decide
 refine (Lo_spec awB.invB.v).mono fun v V6 _ hv => ⟨CxV.mk awB.invB.v.re.lo 13826050856027422720, by rw [hv, e1], fun _ => ?_, fun h => absurd h (by decide +kernel)⟩
 refine (Hi_spec awB.invB.v).mono fun v V7 _ hv => ⟨CxV.mk 4607182418800017408 awB.invB.v.im.hi, by rw [hv, e2], fun _ => ?_, fun h => absurd h (by decide +kernel)⟩
 refine (Box_Clear_spec ok).mono fun v V8 _ hv => ⟨true, by rw [hv]; exact congrArg Value.bool aw_clear.1, fun _ => ?_, fun h => absurd h (by decide)⟩
 exact (Box_Clear_spec okP).mono fun v V9 _ hv => ⟨false, by rw [hv]; exact congrArg Value.bool aw_clear.2, rfl⟩
theorem equal_spec {V : View} (x y : Nat) : CallV Tryz.prog n_law2_equal #[.float .f64 x, .float .f64 y] V fun v _ => v = .bool (decide (x = y)) := by
 refine law2_equal_vc x y V _ ⟨_, ext_bits x, _, ext_bits y, ?_⟩
 congr 1
 by_cases h : x = y
 · subst h; simp
 · have : ¬ (x : Int) = y := by omega
   simp [h, this]
theorem ref2_end_spec {V : View} {x : Nat} (h : okW x) : CallV Tryz.prog n_ref2_end #[.float .f64 x] V fun v _ => v = .float .f64 (wordK (key x)) := by
 have z0 : okW 0 := ⟨by decide, by decide⟩
 have k0 : key 0 = 0 := by decide
 refine ref2_end_vc x V _ ⟨fun hc => ?_, fun hc => ?_⟩
 · rw [ord_eq h z0, k0] at hc
   have hc : key x = 0 := by simpa using hc
   rw [hc]; rfl
 · rw [ord_eq h z0, k0] at hc
   have hc : ¬ key x = 0 := by simpa using hc
   have : wordK (key x) = x := wordK_key h.1 (by rintro rfl; exact hc (by decide))
   rw [this]
theorem ref2_MakeSpan_spec {V : View} {x y : Nat} (hx : x < 2 ^ 64) (hy : y < 2 ^ 64) : CallV Tryz.prog n_ref2_MakeSpan #[.float .f64 x, .float .f64 y] V fun v _ => v = .tuple #[(mkS x y).v.val, .int .i64 (mkE x y)] := by
 have bad : ∀ {e : Int}, mkE x y = e → e ≠ 0 → (Value.tuple #[(SpV.mk 0 0).val, .int .i64 e]) = .tuple #[(mkS x y).v.val, .int .i64 (mkE x y)] := by
  intro e he h0
  unfold mkS; rw [he, if_neg h0, Sk.nil_v]
 refine ref2_MakeSpan_vc x y V _ ((IsNaN_spec hx).mono fun v V1 _ hv => ⟨_, hv, fun hc => ?_, fun hc => ?_⟩)
 · have hc : ¬ okW x := by simpa using hc
   exact bad (by unfold mkE; rw [if_pos (.inl hc)]) (by decide)
 have h1 : okW x := by simpa using hc
 refine (IsNaN_spec hy).mono fun v V2 _ hv => ⟨_, hv, fun hc => ?_, fun hc => ?_⟩
 · have hc : ¬ okW y := by simpa using hc
   exact bad (by unfold mkE; rw [if_pos (.inr (.inl hc))]) (by decide)
 have h2 : okW y := by simpa using hc
 refine (IsInf_up hx).mono fun v V3 _ hv => ⟨_, hv, fun hc => ?_, fun hc => ?_⟩
 · have hc : key x = (infR : Int) := by simp only [decide_eq_true_eq] at hc; exact hc.2
   exact bad (by unfold mkE; rw [if_pos (.inr (.inr (.inl hc)))]) (by decide)
 have h3 : ¬ key x = (infR : Int) := by simp only [decide_eq_false_iff_not] at hc; exact fun e => hc ⟨h1, e⟩
 refine (IsInf_down hy).mono fun v V4 _ hv => ⟨_, hv, fun hc => ?_, fun hc => ?_⟩
 · have hc : key y = -(infR : Int) := by simp only [decide_eq_true_eq] at hc; exact hc.2
   exact bad (by unfold mkE; rw [if_pos (.inr (.inr (.inr hc)))]) (by decide)
 have h4 : ¬ key y = -(infR : Int) := by simp only [decide_eq_false_iff_not] at hc; exact fun e => hc ⟨h2, e⟩
 have hno : ¬ (¬ okW x ∨ ¬ okW y ∨ key x = (infR : Int) ∨ key y = -(infR : Int)) := by
  rintro (h | h | h | h)
  · exact h h1
  · exact h h2
  · exact h3 h
  · exact h4 h
 refine ⟨fun hc => ?_, fun hc => ?_⟩
 · rw [ord_gt h1 h2] at hc
   have hc : key y < key x := by simpa using hc
   exact bad (by unfold mkE; rw [if_neg hno, if_pos hc]) (by decide)
 · rw [ord_gt h1 h2] at hc
   have hc : ¬ key y < key x := by simpa using hc
   have he : mkE x y = 0 := by unfold mkE; rw [if_neg hno, if_neg hc]
   refine (ref2_end_spec h1).mono fun v V5 _ hv => ⟨_, hv, (ref2_end_spec h2).mono fun v V6 _ hv => ⟨_, hv, ?_⟩⟩
   unfold mkS; rw [he, if_pos rfl]; rfl
theorem Ends_span_spec {V : View} {p : EndsV} (h1 : U64 p.lo) (h2 : U64 p.hi) : CallV Tryz.prog n_law2_Ends_span #[p.val] V fun v _ => ∃ (s : Sk) (c : Bool), s.ok ∧ (c = true → s.proper) ∧ v = .tuple #[s.v.val, s.v.val, .bool c] := by
 obtain ⟨a, ha, ha2⟩ := h1.nat
 obtain ⟨b, hb, hb2⟩ := h2.nat
 have floats : CallV Tryz.prog n_law2_Ends_floats #[p.val] V fun v _ => ∃ x y : Nat, x < 2 ^ 64 ∧ y < 2 ^ 64 ∧ v = .tuple #[.float .f64 x, .float .f64 y] := by
  refine law2_Ends_floats_vc p V _ ⟨a, by rw [ha]; exact ext_from a, b, by rw [hb]; exact ext_from b, fun _ => ?_, fun _ => ?_⟩
  · exact ⟨b, a, hb2, ha2, rfl⟩
  · exact ⟨a, b, ha2, hb2, rfl⟩
 refine law2_Ends_span_vc p V _ (floats.mono fun v V1 _ ⟨x, y, hx, hy, hv⟩ => ⟨x, y, hv, ?_⟩)
 refine (ref2_MakeSpan_spec hx hy).mono fun v V2 _ hv => ⟨_, _, hv, fun hc => ?_, fun hc => ?_⟩
 · exact ⟨Sk.nil, false, Sk.nil_ok, fun h => absurd h (by decide), rfl⟩
 · have hc : mkE x y = 0 := by simpa using hc
   refine (MakeSpan_spec hx hy).mono fun v V3 _ hv => ⟨_, _, hv, mkS x y, true, mkS_ok x y, fun _ => mkE_proper hc, rfl⟩

theorem Is_same {V : View} (b : BoxV) : CallV Tryz.prog n_law2_Is #[b.val, b.val] V fun v _ => v = .bool true := by
 refine law2_Is_vc b b V _ ((Lo_spec b).mono fun v V1 _ hv => ⟨CxV.mk _ _, hv, (equal_spec _ _).mono fun v V2 _ hv => ⟨_, hv, fun _ => ?_, fun h => absurd h (by simp)⟩⟩)
 refine (Lo_spec b).mono fun v V3 _ hv => ⟨CxV.mk _ _, hv, (equal_spec _ _).mono fun v V4 _ hv => ⟨_, hv, fun _ => ?_, fun h => absurd h (by simp)⟩⟩
 refine (Hi_spec b).mono fun v V5 _ hv => ⟨CxV.mk _ _, hv, (equal_spec _ _).mono fun v V6 _ hv => ⟨_, hv, fun _ => ?_, fun h => absurd h (by simp)⟩⟩
 exact (Hi_spec b).mono fun v V7 _ hv => ⟨CxV.mk _ _, hv, (equal_spec _ _).mono fun v V8 _ hv => ⟨_, hv, by simp⟩⟩
theorem Both_spec {V : View} {p : SidesV} (h : p.u64) : CallV Tryz.prog n_law2_Sides_Both #[p.val] V fun v _ => ∃ (b : Bk) (c : Bool), b.ok ∧ (c = true → b.proper) ∧ v = .tuple #[b.v.val, b.v.val, .bool c] := by
 obtain ⟨h1, h2, h3, h4⟩ := h
 refine law2_Sides_Both_vc p V _ ((Ends_span_spec h1 h2).mono fun v V1 _ ⟨s, c, hs, hc, hv⟩ => ⟨_, _, _, hv, ?_⟩)
 refine (Ends_span_spec h3 h4).mono fun v V2 _ ⟨t, d, ht, hd, hv⟩ => ⟨_, _, _, hv, ?_⟩
 refine (Pair_spec s.v t.v).mono fun v V3 _ hv => ⟨_, hv, fun hcc => ?_, fun _ => ?_⟩
 · exact ⟨⟨s, t⟩, d, ⟨hs, ht⟩, fun hdd => ⟨hc hcc, hd hdd⟩, rfl⟩
 · exact ⟨⟨s, t⟩, false, ⟨hs, ht⟩, fun h => absurd h (by decide), rfl⟩

theorem sgI_shift (x m k : Nat) : (if decide (sgI x m < 0) = true then -((m * 2 ^ k : Nat) : Int) else ((m * 2 ^ k : Nat) : Int)) = sgI x (m * 2 ^ k) := by
 by_cases z : m = 0
 · subst z; rw [Nat.zero_mul]; unfold sgI; split <;> split <;> rfl
 · have hp : 0 < 2 ^ k := Nat.pow_pos (by omega)
   have : 0 < m * 2 ^ k := Nat.mul_pos (by omega) hp
   unfold sgI
   by_cases c : 2 ^ 63 ≤ x
   · rw [if_pos c, if_pos c, if_pos (by rw [decide_eq_true_iff]; omega)]
   · rw [if_neg c, if_neg c, if_neg (by rw [decide_eq_true_iff]; omega)]
theorem ref1_dyadic_spec {V : View} {x : Nat} (h : finW x) : CallV Tryz.prog n_ref1_dyadic #[.float .f64 x] V fun v V' => ∃ r : NumV, v = r.val ∧ QAt V' r ⟨fq x, 0⟩ := by
 have h64 := h.1
 have hfl : fld x < 2048 := by unfold fld; omega
 have hu := up1_pos x
 have hml := mant_lt x
 have hp52 : (2 : Int) ^ (min (Int.toNat 52) IntKind.u64.bits) = ((2 ^ 52 : Nat) : Int) := by decide
 have hp63 : (2 : Int) ^ (min (Int.toNat 63) IntKind.u64.bits) = ((2 ^ 63 : Nat) : Int) := by decide
 have e1 : IntKind.i64.wrap (IntKind.u64.wrap (BitVec.toNat ((BitVec.ofInt IntKind.u64.bits (Int.fdiv (x : Int) (2 ^ (min (Int.toNat 52) (IntKind.u64.bits))))) &&& (BitVec.ofInt IntKind.u64.bits 2047)))) = (fld x : Int) := by
  have := u64_and2 (x := x / 2 ^ 52) (m := 2047) (by omega) (by omega)
  have e : x / 2 ^ 52 &&& 2047 = fld x := Nat.and_two_pow_sub_one_eq_mod (x / 2 ^ 52) 11
  rw [e] at this
  rw [hp52, fdiv_pow]
  rw [show (((2047 : Nat)) : Int) = 2047 from rfl] at this
  rw [this, i64w (by omega) (by omega)]
 have e2 : IntKind.u64.wrap (BitVec.toNat ((BitVec.ofInt IntKind.u64.bits (x : Int)) &&& (BitVec.ofInt IntKind.u64.bits 4503599627370495))) = ((x % 2 ^ 52 : Nat) : Int) := by
  have := u64_and2 (x := x) (m := 4503599627370495) (by omega) (by omega)
  have e : x &&& 4503599627370495 = x % 2 ^ 52 := Nat.and_two_pow_sub_one_eq_mod x 52
  rw [e] at this
  exact this
 have e3 : ((Int.fdiv (x : Int) (2 ^ (min (Int.toNat 63) (IntKind.u64.bits))) : Int) == 1) = decide (2 ^ 63 ≤ x) := by
  rw [hp63, fdiv_pow]
  by_cases c : 2 ^ 63 ≤ x
  · have : x / 2 ^ 63 = 1 := by omega
    rw [this, decide_eq_true c]; rfl
  · have : x / 2 ^ 63 = 0 := by omega
    rw [this, decide_eq_false c]; rfl
 refine ref1_dyadic_vc x V _ ⟨x, ext_bits x, ?_⟩
 rw [e1, e2, e3]
 have hw : ∀ {V1 : View} {s : Sl} {n : Nat}, NatAt V1 s n → n = mant x → CallV Tryz.prog n_ref1_signed #[.bool (decide (2 ^ 63 ≤ x)), s.v] V1 fun v V' => ∃ r : WhV, v = r.val ∧ IntAt V' r (sgI x (mant x)) := by
  intro V1 s n hs hn
  refine (ref1_signed_spec (decide (2 ^ 63 ≤ x)) hs).mono fun v V2 _ ⟨r, hv, hr⟩ => ⟨r, hv, ?_⟩
  subst hn
  unfold sgI
  by_cases c : 2 ^ 63 ≤ x
  · rw [decide_eq_true c] at hr; rw [if_pos c]; simpa using hr
  · rw [decide_eq_false c] at hr; rw [if_neg c]; simpa using hr
 -- below the place of the ones
 have low : ∀ {V : View} {r2 : WhV} {k : Nat}, IntAt V r2 (sgI x (mant x)) → (k : Int) = 1075 - (up1 x : Int) → ∀ (b2 : Nat) (V6 : View), View.le V V6 → View.Fin V6 → V6 b2 = some #[.int .u32 1] →
  CallV Tryz.prog n_ref1_NatShl #[(Sl.mk (some (Addr.mk b2 0 none)) 1 1).v, .int .i64 (k : Int)] V6 fun v V7 => ∃ r5 : Sl, v = r5.v ∧ CallV Tryz.prog n_ref1_Make #[r2.val, (WhV.mk false (Sl.mk none 0 0)).val, r5.v] V7 fun v V8 => ∃ r6 : NumV, v = r6.val ∧ ∃ r : NumV, r6.val = r.val ∧ QAt V8 r ⟨fq x, 0⟩ := by
  intro V r2 k hr hk b2 V6 l6 _ hb2
  refine (ref1_NatShl_spec (n := k) (NatAt.lit (n := 1) hb2 (by omega) (by omega)) (Nat.le_trans wn_one (by decide)) (by omega)).mono fun v V7 l7 ⟨r5, hv, h5⟩ => ⟨r5, hv, ?_⟩
  rw [Nat.one_mul] at h5
  have R : Rep ⟨fq x, 0⟩ (sgI x (mant x)) 0 (2 ^ k) := by
   refine ⟨two_ne k, ?_, zero_over _⟩
   have := fq_over (x := x) (k := k) (n := 0) h64 (by omega)
   rw [Nat.pow_zero, Nat.mul_one] at this
   exact this
  have b2k := bl_two_pow k
  refine (ref1_Make_spec (hr.le (View.le_trans l6 l7)) (IntAt.zero V7) h5 R ?_ (by rw [Int.natAbs_zero, wn_zero]; omega) (wn_bl (by omega))).mono fun v V8 _ ⟨r6, hv, h6⟩ => ⟨r6, hv, r6, rfl, h6⟩
  rw [sgI_abs]; exact wn64 (by omega)
 refine ⟨fun hc => ?_, fun hc => ?_⟩
 · have hc : ((fld x : Nat) : Int) = 0 := by simpa using hc
   have hf0 : fld x = 0 := by omega
   have em : x % 2 ^ 52 = mant x := by unfold mant; rw [if_pos hf0]
   have eu : up1 x = 1 := by unfold up1; rw [if_pos hf0]
   rw [em]
   refine (ref1_NatOf_spec (n := ((mant x : Nat) : Int)) (by omega) (by omega)).mono fun v V1 _ ⟨s, hv, hs⟩ => ⟨s, hv, ?_⟩
   refine (hw hs (by omega)).mono fun v V2 _ ⟨r, hv, hr⟩ => ⟨r, hv, fun g => absurd g (by decide), fun _ => ?_⟩
   have w : IntKind.i64.wrap (1075 - 1) = ((1074 : Nat) : Int) := by decide
   rw [w]
   exact low (k := 1074) hr (by omega)
 · have hf0 : fld x ≠ 0 := fun e => by rw [e] at hc; simp at hc
   have eu : up1 x = fld x := by unfold up1; rw [if_neg hf0]
   have e4 : IntKind.u64.wrap (BitVec.toNat ((BitVec.ofInt IntKind.u64.bits ((x % 2 ^ 52 : Nat) : Int)) ||| (BitVec.ofInt IntKind.u64.bits 4503599627370496))) = ((mant x : Nat) : Int) := by
    have := u64_or (x := x % 2 ^ 52) (m := 4503599627370496) (by omega) (by omega)
    have hor := Nat.two_pow_add_eq_or_of_lt (i := 52) (b := x % 2 ^ 52) (by omega) 1
    have e : x % 2 ^ 52 ||| 4503599627370496 = mant x := by
     rw [Nat.or_comm]
     have h1 : 2 ^ 52 * 1 = 4503599627370496 := by decide
     rw [h1] at hor
     rw [← hor]; unfold mant; rw [if_neg (by omega)]; omega
    rw [e] at this
    exact this
   rw [e4]
   refine (ref1_NatOf_spec (n := ((mant x : Nat) : Int)) (by omega) (by omega)).mono fun v V1 _ ⟨s, hv, hs⟩ => ⟨s, hv, ?_⟩
   refine (hw hs (by omega)).mono fun v V2 _ ⟨r, hv, hr⟩ => ⟨r, hv, fun hg => ?_, fun hg => ?_⟩
   · have hg : ((fld x : Nat) : Int) ≥ 1075 := by simpa using hg
     obtain ⟨k, hk⟩ : ∃ k : Nat, fld x = 1075 + k := ⟨fld x - 1075, by omega⟩
     have w : IntKind.i64.wrap (((fld x : Nat) : Int) - 1075) = (k : Int) := by rw [i64w (by omega) (by omega)]; omega
     rw [w]
     have hr2 := hr.2
     rw [sgI_abs] at hr2
     refine (ref1_NatShl_spec (n := k) hr2 (Nat.le_trans (wn64 (by omega)) (by decide)) (by omega)).mono fun v V3 l3 ⟨r3, hv, h3⟩ => ⟨r3, hv, ?_⟩
     refine (ref1_signed_spec r.neg h3).mono fun v V4 l4 ⟨r4, hv, h4⟩ => ⟨r4, hv, fun b V5 l5 _ hb => ⟨_, rfl, ?_⟩⟩
     rw [hr.1, sgI_shift] at h4
     have e5 : fq x = ((sgI x (mant x * 2 ^ k) : Int) : Rat) := by
      have := fq_over (x := x) (k := 0) (n := k) h64 (by omega)
      rw [this, Nat.pow_zero, Rat.div_def]
      have : ((1 : Nat) : Rat)⁻¹ = 1 := by decide +kernel
      rw [this, Rat.mul_one]
     have q := Cq.ofInt_eqs (sgI x (mant x * 2 ^ k))
     rw [← e5] at q
     exact ⟨by rw [q.1]; exact h4.le l5, by rw [q.2.1]; exact IntAt.zero _, by rw [q.2.2]; exact NatAt.lit (n := 1) hb (by omega) (by omega)⟩
   · have hg : ¬ ((fld x : Nat) : Int) ≥ 1075 := by simpa using hg
     obtain ⟨k, hk⟩ : ∃ k : Nat, (k : Int) = 1075 - (fld x : Int) := ⟨1075 - fld x, by omega⟩
     have w : IntKind.i64.wrap (1075 - ((fld x : Nat) : Int)) = (k : Int) := by rw [i64w (by omega) (by omega)]; omega
     rw [w]
     exact low hr (by omega)
theorem ref1_Float_spec {V : View} {x : Nat} (h : finW x) : CallV Tryz.prog n_ref1_Float #[.float .f64 x] V fun v V' => ∃ r : NumV, v = .tuple #[r.val, .int .i64 0] ∧ QAt V' r ⟨fq x, 0⟩ := by
 refine ref1_Float_vc x V _ ((ref1_finite_spec h.1).mono fun v V1 _ hv => ⟨_, hv, fun hc => ?_, fun _ => ?_⟩)
 · rw [decide_eq_true h.2] at hc; exact absurd hc (by decide)
 · exact (ref1_dyadic_spec h).mono fun v V2 _ ⟨r, hv, hr⟩ => ⟨r, hv, r, rfl, hr⟩
theorem ref2_of_spec {V : View} {k : Int} (hk : inK k) : CallV Tryz.prog n_ref2_of #[.float .f64 (wordK k)] V fun v V' => ∃ b : BdV, v = b.val ∧ BqAt V' b (endE k) := by
 have h := okK hk
 have hx := keyK hk
 have whole : ∀ {V : View}, CallV Tryz.prog n_ref1_Whole #[.int .i64 0] V fun v V' => ∃ r : NumV, v = r.val ∧ QAt V' r ⟨((0 : Int) : Rat), 0⟩ := ref1_Whole_spec (by omega) (by omega)
 refine ref2_of_vc (wordK k) V _ ((IsInf_up h.1).mono fun v V1 _ hv => ⟨_, hv, fun hc => ?_, fun hc => ?_⟩)
 · have hc : k = (infR : Int) := by simp only [decide_eq_true_eq] at hc; rw [← hx]; exact hc.2
   refine whole.mono fun v V2 _ ⟨r, hv, hr⟩ => ⟨r, hv, _, rfl, ?_⟩
   unfold endE; rw [if_pos hc]; exact .zero hr (.inr ⟨rfl, .inl rfl⟩)
 have hc : k ≠ (infR : Int) := by simp only [decide_eq_false_iff_not] at hc; rw [hx] at hc; exact fun e => hc ⟨h, e⟩
 refine (IsInf_down h.1).mono fun v V2 _ hv => ⟨_, hv, fun hd => ?_, fun hd => ?_⟩
 · have hd : k = -(infR : Int) := by simp only [decide_eq_true_eq] at hd; rw [← hx]; exact hd.2
   refine whole.mono fun v V2 _ ⟨r, hv, hr⟩ => ⟨r, hv, _, rfl, ?_⟩
   unfold endE; rw [if_neg hc, if_pos hd]; exact .zero hr (.inr ⟨rfl, .inr rfl⟩)
 have hd : k ≠ -(infR : Int) := by simp only [decide_eq_false_iff_not] at hd; rw [hx] at hd; exact fun e => hd ⟨h, e⟩
 have hf : finW (wordK k) := by unfold inK at hk; exact wordK_fin (by omega) (by omega)
 refine (ref1_Float_spec hf).mono fun v V3 _ ⟨r, hv, hr⟩ => ⟨r, 0, hv, ?_⟩
 have e : fq (wordK k) = fkq k := by rw [fq_key, hx]
 rw [e] at hr
 refine (ref2_at_spec hr).mono fun v V4 _ ⟨b, hv, hb⟩ => ⟨b, hv, b, rfl, ?_⟩
 unfold endE; rw [if_neg hc, if_neg hd]; exact hb
def bqC (V : View) (x : List Value) (e : Eb) : Prop := ∃ b : BdV, x = b.val.cells.toList ∧ BqAt V b e
theorem bqC.le {V V' : View} (hle : V.le V') (x : List Value) (e : Eb) (h : bqC V x e) : bqC V' x e := by
 obtain ⟨b, e1, hb⟩ := h; exact ⟨b, e1, hb.le hle⟩
def BqsAt (V : View) (s : Sl) (es : List Eb) : Prop := ListAt 6 bqC V s es
theorem BqsAt.le {V V' : View} (hle : V.le V') {s : Sl} {es : List Eb} (h : BqsAt V s es) : BqsAt V' s es := ListAt.le (bqC.le hle) hle h
theorem take_one {es : List Eb} (h : 0 < es.length) : es.take 1 = [es[0]] := by
 cases es with
 | nil => simp at h
 | cons e es => simp
theorem ref2_least_spec {V : View} {s : Sl} {es : List Eb} (h : BqsAt V s es) (h0 : es ≠ []) (hn : es.length ≤ 2 ^ 32) (hS : ∀ e ∈ es, e.num.sz ≤ 2 ^ 38) :
 CallV Tryz.prog n_ref2_least #[s.v] V fun v V' => ∃ b : BdV, v = b.val ∧ BqAt V' b (Eb.pick (-1) es) := by
 have hl := h.len
 have h1 : 1 ≤ es.length := by
  rcases Nat.eq_zero_or_pos es.length with c | c
  · exact absurd (List.eq_nil_of_length_eq_zero c) h0
  · exact c
 refine ref2_least_vc s V _ (fun _ x V' => ∃ i : Nat, x.t4 = ((i + 1 : Nat) : Int) ∧ i + 1 ≤ es.length ∧ BqAt V' x.o3 (Eb.pick (-1) (es.take (i + 1))) ∧ (Eb.pick (-1) (es.take (i + 1))).num.sz ≤ 2 ^ 38) (fun _ x _ => (es.length - x.t4).toNat) ?_
 obtain ⟨hb, x, ⟨b0, hx, hb0⟩, _, hh, hs⟩ := ListAt.get h (t := 0) (by omega) (z := es[0]) (by simp)
 refine ⟨hb, b0, hx ▸ hh, hs, ⟨0, rfl, h1, ?_, ?_⟩, ?_⟩
 · rw [take_one h1]; exact hb0
 · rw [take_one h1]; exact hS _ (List.getElem_mem _)
 rintro ⟨t, o2, o3⟩ V2 l2 ⟨i, rfl, hi, ho, hz⟩
 dsimp only at ho hz ⊢
 rw [hl]
 refine ⟨fun hlt => ?_, fun hge => ?_⟩
 · simp only [decide_eq_true_eq] at hlt
   have hi2 : i + 1 < es.length := by omega
   obtain ⟨hb', x', ⟨b', hx', hb''⟩, _, hh', hs'⟩ := ListAt.get (h.le l2) (t := ((i + 1 : Nat) : Int)) (by omega) (z := es[i + 1]) (by rw [Int.toNat_natCast]; simp [hi2])
   rw [hl] at hb'
   refine ⟨hb', b', hx' ▸ hh', hs', ?_⟩
   have wi : IntKind.i64.wrap (((i + 1 : Nat) : Int) + 1) = ((i + 1 + 1 : Nat) : Int) := by rw [i64w (by omega) (by omega)]; omega
   have rg := Eb.cmp_range es[i + 1] (Eb.pick (-1) (es.take (i + 1)))
   refine (ref2_cmp_spec hb'' ho (hS _ (List.getElem_mem _)) hz).mono fun v V3 l3 hv => ⟨_, hv, fun hc => ?_, fun hc => ?_⟩
   · simp only [decide_eq_true_eq] at hc
     refine ⟨hb', b', View.has_le l3 (hx' ▸ hh'), hs', ?_⟩
     rw [wi]
     refine ⟨⟨i + 1, rfl, by omega, ?_, ?_⟩, by omega⟩
     · rw [pick_take (-1) hi2, if_pos (by omega)]; exact hb''.le l3
     · rw [pick_take (-1) hi2, if_pos (by omega)]; exact hS _ (List.getElem_mem _)
   · simp only [decide_eq_false_iff_not] at hc
     rw [wi]
     refine ⟨⟨i + 1, rfl, by omega, ?_, ?_⟩, by omega⟩
     · rw [pick_take (-1) hi2, if_neg (by omega)]; exact ho.le l3
     · rw [pick_take (-1) hi2, if_neg (by omega)]; exact hz
 · simp only [decide_eq_false_iff_not] at hge
   have : i + 1 = es.length := by omega
   rw [this, List.take_length] at ho
   exact ⟨_, rfl, ho⟩
theorem ref2_greatest_spec {V : View} {s : Sl} {es : List Eb} (h : BqsAt V s es) (h0 : es ≠ []) (hn : es.length ≤ 2 ^ 32) (hS : ∀ e ∈ es, e.num.sz ≤ 2 ^ 38) :
 CallV Tryz.prog n_ref2_greatest #[s.v] V fun v V' => ∃ b : BdV, v = b.val ∧ BqAt V' b (Eb.pick 1 es) := by
 have hl := h.len
 have h1 : 1 ≤ es.length := by
  rcases Nat.eq_zero_or_pos es.length with c | c
  · exact absurd (List.eq_nil_of_length_eq_zero c) h0
  · exact c
 refine ref2_greatest_vc s V _ (fun _ x V' => ∃ i : Nat, x.t4 = ((i + 1 : Nat) : Int) ∧ i + 1 ≤ es.length ∧ BqAt V' x.o3 (Eb.pick 1 (es.take (i + 1))) ∧ (Eb.pick 1 (es.take (i + 1))).num.sz ≤ 2 ^ 38) (fun _ x _ => (es.length - x.t4).toNat) ?_
 obtain ⟨hb, x, ⟨b0, hx, hb0⟩, _, hh, hs⟩ := ListAt.get h (t := 0) (by omega) (z := es[0]) (by simp)
 refine ⟨hb, b0, hx ▸ hh, hs, ⟨0, rfl, h1, ?_, ?_⟩, ?_⟩
 · rw [take_one h1]; exact hb0
 · rw [take_one h1]; exact hS _ (List.getElem_mem _)
 rintro ⟨t, o2, o3⟩ V2 l2 ⟨i, rfl, hi, ho, hz⟩
 dsimp only at ho hz ⊢
 rw [hl]
 refine ⟨fun hlt => ?_, fun hge => ?_⟩
 · simp only [decide_eq_true_eq] at hlt
   have hi2 : i + 1 < es.length := by omega
   obtain ⟨hb', x', ⟨b', hx', hb''⟩, _, hh', hs'⟩ := ListAt.get (h.le l2) (t := ((i + 1 : Nat) : Int)) (by omega) (z := es[i + 1]) (by rw [Int.toNat_natCast]; simp [hi2])
   rw [hl] at hb'
   refine ⟨hb', b', hx' ▸ hh', hs', ?_⟩
   have wi : IntKind.i64.wrap (((i + 1 : Nat) : Int) + 1) = ((i + 1 + 1 : Nat) : Int) := by rw [i64w (by omega) (by omega)]; omega
   have rg := Eb.cmp_range es[i + 1] (Eb.pick 1 (es.take (i + 1)))
   refine (ref2_cmp_spec hb'' ho (hS _ (List.getElem_mem _)) hz).mono fun v V3 l3 hv => ⟨_, hv, fun hc => ?_, fun hc => ?_⟩
   · simp only [decide_eq_true_eq] at hc
     refine ⟨hb', b', View.has_le l3 (hx' ▸ hh'), hs', ?_⟩
     rw [wi]
     refine ⟨⟨i + 1, rfl, by omega, ?_, ?_⟩, by omega⟩
     · rw [pick_take 1 hi2, if_pos (by omega)]; exact hb''.le l3
     · rw [pick_take 1 hi2, if_pos (by omega)]; exact hS _ (List.getElem_mem _)
   · simp only [decide_eq_false_iff_not] at hc
     rw [wi]
     refine ⟨⟨i + 1, rfl, by omega, ?_, ?_⟩, by omega⟩
     · rw [pick_take 1 hi2, if_neg (by omega)]; exact ho.le l3
     · rw [pick_take 1 hi2, if_neg (by omega)]; exact hz
 · simp only [decide_eq_false_iff_not] at hge
   have : i + 1 = es.length := by omega
   rw [this, List.take_length] at ho
   exact ⟨_, rfl, ho⟩
theorem ref2_tight_spec {V : View} {a b : BdV} {e f : Eb} (ha : BqAt V a e) (hb : BqAt V b f) (hz : e.num.sz ≤ 2 ^ 30) (hw : f.num.sz ≤ 2 ^ 30) : CallV Tryz.prog n_ref2_tight #[a.val, b.val] V fun v _ => v = (Sk.v (Es.span ⟨e, f⟩)).val := by
 have il := ha.inf
 have ih := hb.inf
 refine ref2_tight_vc a b V _ (Inf_down.mono fun v V1 l1 hv => ⟨_, hv, Inf_up.mono fun v V2 l2 hv => ⟨_, hv, fun h1 => ?_, fun h1 => ?_⟩⟩)
 · have h1 : e.inf = 0 := by rw [← il]; simpa using h1
   refine (ref1_Below_spec (ha.num.le (View.le_trans l1 l2)) hz).mono fun v V3 l3 hv => ⟨_, hv, fun h2 => ?_, fun h2 => ?_⟩
   · have h2 : f.inf = 0 := by rw [← ih]; simpa using h2
     refine (ref1_Above_spec (hb.num.le (View.le_trans l1 (View.le_trans l2 l3))) hw).mono fun v V4 l4 hv => ⟨_, hv, ?_⟩
     unfold Es.span Sk.v; rw [if_pos h1, if_pos h2]; rfl
   · have h2 : f.inf ≠ 0 := by rw [← ih]; simpa using h2
     unfold Es.span Sk.v; rw [if_pos h1, if_neg h2, ← up_key]; rfl
 · have h1 : e.inf ≠ 0 := by rw [← il]; simpa using h1
   refine ⟨fun h2 => ?_, fun h2 => ?_⟩
   · have h2 : f.inf = 0 := by rw [← ih]; simpa using h2
     refine (ref1_Above_spec (hb.num.le (View.le_trans l1 l2)) hw).mono fun v V4 l4 hv => ⟨_, hv, ?_⟩
     unfold Es.span Sk.v; rw [if_neg h1, if_pos h2, ← down_key]; rfl
   · have h2 : f.inf ≠ 0 := by rw [← ih]; simpa using h2
     unfold Es.span Sk.v; rw [if_neg h1, if_neg h2, ← up_key, ← down_key]

theorem four_bqs {V : View} {b : Nat} {r1 r2 r3 r4 : BdV} {e1 e2 e3 e4 : Eb} (h1 : BqAt V r1 e1) (h2 : BqAt V r2 e2) (h3 : BqAt V r3 e3) (h4 : BqAt V r4 e4)
 (hb : V b = some #[.int .i64 r1.inf, .bool r1.x.re.neg, r1.x.re.mag.v, .bool r1.x.im.neg, r1.x.im.mag.v, r1.x.under.v, .int .i64 r2.inf, .bool r2.x.re.neg, r2.x.re.mag.v, .bool r2.x.im.neg, r2.x.im.mag.v, r2.x.under.v, .int .i64 r3.inf, .bool r3.x.re.neg, r3.x.re.mag.v, .bool r3.x.im.neg, r3.x.im.mag.v, r3.x.under.v, .int .i64 r4.inf, .bool r4.x.re.neg, r4.x.re.mag.v, .bool r4.x.im.neg, r4.x.im.mag.v, r4.x.under.v]) :
 BqsAt V ⟨some ⟨b, 0, none⟩, 4, 4⟩ [e1, e2, e3, e4] :=
 ListAt.of_made (o := r1.val.cells.toList ++ (r2.val.cells.toList ++ (r3.val.cells.toList ++ (r4.val.cells.toList ++ [])))) hb
  ⟨_, _, rfl, rfl, ⟨r1, rfl, h1⟩, _, _, rfl, rfl, ⟨r2, rfl, h2⟩, _, _, rfl, rfl, ⟨r3, rfl, h3⟩, _, _, rfl, rfl, ⟨r4, rfl, h4⟩, rfl⟩ rfl
theorem two_bqs {V : View} {b : Nat} {r1 r2 : BdV} {e1 e2 : Eb} (h1 : BqAt V r1 e1) (h2 : BqAt V r2 e2)
 (hb : V b = some #[.int .i64 r1.inf, .bool r1.x.re.neg, r1.x.re.mag.v, .bool r1.x.im.neg, r1.x.im.mag.v, r1.x.under.v, .int .i64 r2.inf, .bool r2.x.re.neg, r2.x.re.mag.v, .bool r2.x.im.neg, r2.x.im.mag.v, r2.x.under.v]) :
 BqsAt V ⟨some ⟨b, 0, none⟩, 2, 2⟩ [e1, e2] :=
 ListAt.of_made (o := r1.val.cells.toList ++ (r2.val.cells.toList ++ [])) hb ⟨_, _, rfl, rfl, ⟨r1, rfl, h1⟩, _, _, rfl, rfl, ⟨r2, rfl, h2⟩, rfl⟩ rfl
theorem ref2_corners_spec {V : View} {a b c d : BdV} {x y : Es} (ha : BqAt V a x.lo) (hb : BqAt V b x.hi) (hc : BqAt V c y.lo) (hd : BqAt V d y.hi) {S : Nat} (hx : Es.szle x S) (hy : Es.szle y S) (hS : S ≤ 2 ^ 30) :
 CallV Tryz.prog n_ref2_corners #[a.val, b.val, c.val, d.val] V fun v V' => ∃ s : Sl, v = s.v ∧ BqsAt V' s (Es.prods x y) := by
 have s1 := hx.1; have s2 := hx.2; have s3 := hy.1; have s4 := hy.2
 refine ref2_corners_vc a b c d V _ ((ref2_times_spec ha hc (by omega) (by omega)).mono fun v V1 l1 ⟨r1, hv, h1⟩ => ⟨r1, hv, ?_⟩)
 refine (ref2_times_spec (ha.le l1) (hd.le l1) (by omega) (by omega)).mono fun v V2 l2 ⟨r2, hv, h2⟩ => ⟨r2, hv, ?_⟩
 have L2 := View.le_trans l1 l2
 refine (ref2_times_spec (hb.le L2) (hc.le L2) (by omega) (by omega)).mono fun v V3 l3 ⟨r3, hv, h3⟩ => ⟨r3, hv, ?_⟩
 have L3 := View.le_trans L2 l3
 refine (ref2_times_spec (hb.le L3) (hd.le L3) (by omega) (by omega)).mono fun v V4 l4 ⟨r4, hv, h4⟩ => ⟨r4, hv, fun b1 V5 l5 _ hb1 => ⟨_, rfl, ?_⟩⟩
 exact four_bqs (h1.le (View.le_trans l2 (View.le_trans l3 (View.le_trans l4 l5)))) (h2.le (View.le_trans l3 (View.le_trans l4 l5))) (h3.le (View.le_trans l4 l5)) (h4.le l5) hb1
theorem ref2_products_spec {V : View} {s t : Sk} (h : s.ok) (k : t.ok) : CallV Tryz.prog n_ref2_products #[s.v.val, t.v.val] V fun v V' => ∃ q : Sl, v = q.v ∧ BqsAt V' q (Es.prods s.set t.set) := by
 refine ref2_products_vc s.v t.v V _ ((ref2_of_spec h.lo).mono fun v V1 l1 ⟨r1, hv, h1⟩ => ⟨r1, hv, (ref2_of_spec h.hi).mono fun v V2 l2 ⟨r2, hv, h2⟩ => ⟨r2, hv, ?_⟩⟩)
 refine (ref2_of_spec k.lo).mono fun v V3 l3 ⟨r3, hv, h3⟩ => ⟨r3, hv, (ref2_of_spec k.hi).mono fun v V4 l4 ⟨r4, hv, h4⟩ => ⟨r4, hv, ?_⟩⟩
 exact (ref2_corners_spec (x := s.set) (y := t.set) (h1.le (View.le_trans l2 (View.le_trans l3 l4))) (h2.le (View.le_trans l3 l4)) (h3.le l4) h4 (set_szle h) (set_szle k) (by omega)).mono fun v V5 _ ⟨q, hv, hq⟩ => ⟨q, hv, q, rfl, hq⟩
theorem prods_szs {s t : Sk} (h : s.ok) (k : t.ok) : ∀ x ∈ Es.prods s.set t.set, x.num.sz ≤ 2 ^ 13 := fun x hx => by have := prods_sz (set_szle h) (set_szle k) x hx; omega
theorem ref2_Box_Mul_spec {V : View} {b c : Bk} (h : b.ok) (k : c.ok) : CallV Tryz.prog n_ref2_Box_Mul #[b.v.val, c.v.val] V fun v _ => v = (b.mul c).v.val := by
 have sz : ∀ {s t : Sk}, s.ok → t.ok → ∀ way, (Eb.pick way (Es.prods s.set t.set)).num.sz ≤ 2 ^ 13 := fun hs ht way => pick_sz (Es.prods_ne _ _) (prods_szs hs ht)
 have ls : ∀ {V : View} {s t : Sk} {q : Sl}, s.ok → t.ok → BqsAt V q (Es.prods s.set t.set) → CallV Tryz.prog n_ref2_least #[q.v] V fun v V' => ∃ b : BdV, v = b.val ∧ BqAt V' b (Eb.pick (-1) (Es.prods s.set t.set)) :=
  fun hs ht hq => ref2_least_spec hq (Es.prods_ne _ _) (by simp [Es.prods]) fun x hx => Nat.le_trans (prods_szs hs ht x hx) (by omega)
 have gs : ∀ {V : View} {s t : Sk} {q : Sl}, s.ok → t.ok → BqsAt V q (Es.prods s.set t.set) → CallV Tryz.prog n_ref2_greatest #[q.v] V fun v V' => ∃ b : BdV, v = b.val ∧ BqAt V' b (Eb.pick 1 (Es.prods s.set t.set)) :=
  fun hs ht hq => ref2_greatest_spec hq (Es.prods_ne _ _) (by simp [Es.prods]) fun x hx => Nat.le_trans (prods_szs hs ht x hx) (by omega)
 have a1 := sz h.re k.re (-1); have a2 := sz h.re k.re 1; have a3 := sz h.im k.im (-1); have a4 := sz h.im k.im 1
 have a5 := sz h.re k.im (-1); have a6 := sz h.re k.im 1; have a7 := sz h.im k.re (-1); have a8 := sz h.im k.re 1
 have n3 := sz_neg_num (Eb.pick (-1) (Es.prods b.im.set c.im.set)); have n4 := sz_neg_num (Eb.pick 1 (Es.prods b.im.set c.im.set))
 have t1 := sz_add_num (Eb.pick (-1) (Es.prods b.re.set c.re.set)) (Eb.pick 1 (Es.prods b.im.set c.im.set)).neg
 have t2 := sz_add_num (Eb.pick 1 (Es.prods b.re.set c.re.set)) (Eb.pick (-1) (Es.prods b.im.set c.im.set)).neg
 have t3 := sz_add_num (Eb.pick (-1) (Es.prods b.re.set c.im.set)) (Eb.pick (-1) (Es.prods b.im.set c.re.set))
 have t4 := sz_add_num (Eb.pick 1 (Es.prods b.re.set c.im.set)) (Eb.pick 1 (Es.prods b.im.set c.re.set))
 refine ref2_Box_Mul_vc b.v c.v V _ ((ref2_products_spec h.re k.re).mono fun v V1 l1 ⟨q1, hv, h1⟩ => ⟨q1, hv, (ref2_products_spec h.im k.im).mono fun v V2 l2 ⟨q2, hv, h2⟩ => ⟨q2, hv, ?_⟩⟩)
 refine (ref2_products_spec h.re k.im).mono fun v V3 l3 ⟨q3, hv, h3⟩ => ⟨q3, hv, (ref2_products_spec h.im k.re).mono fun v V4 l4 ⟨q4, hv, h4⟩ => ⟨q4, hv, ?_⟩⟩
 replace h1 := h1.le (View.le_trans l2 (View.le_trans l3 l4)); replace h2 := h2.le (View.le_trans l3 l4); replace h3 := h3.le l4
 refine (ls h.re k.re h1).mono fun v V5 l5 ⟨r5, hv, h5⟩ => ⟨r5, hv, (gs h.im k.im (h2.le l5)).mono fun v V6 l6 ⟨r6, hv, h6⟩ => ⟨r6, hv, ?_⟩⟩
 refine (ref2_minus_spec h6).mono fun v V7 l7 ⟨r7, hv, h7⟩ => ⟨r7, hv, ?_⟩
 refine (ref2_plus_spec (h5.le (View.le_trans l6 l7)) h7 (by omega) (by omega)).mono fun v V8 l8 ⟨r8, hv, h8⟩ => ⟨r8, hv, ?_⟩
 have L8 := View.le_trans l5 (View.le_trans l6 (View.le_trans l7 l8))
 refine (gs h.re k.re (h1.le L8)).mono fun v V9 l9 ⟨r9, hv, h9⟩ => ⟨r9, hv, (ls h.im k.im (h2.le (View.le_trans L8 l9))).mono fun v V10 l10 ⟨r10, hv, h10⟩ => ⟨r10, hv, ?_⟩⟩
 refine (ref2_minus_spec h10).mono fun v V11 l11 ⟨r11, hv, h11⟩ => ⟨r11, hv, ?_⟩
 refine (ref2_plus_spec (h9.le (View.le_trans l10 l11)) h11 (by omega) (by omega)).mono fun v V12 l12 ⟨r12, hv, h12⟩ => ⟨r12, hv, ?_⟩
 have L12 := View.le_trans l9 (View.le_trans l10 (View.le_trans l11 l12))
 refine (ref2_tight_spec (h8.le L12) h12 (by omega) (by omega)).mono fun v V13 l13 hv => ⟨_, hv, ?_⟩
 have L13 := View.le_trans L8 (View.le_trans L12 l13)
 refine (ls h.re k.im (h3.le L13)).mono fun v V14 l14 ⟨r14, hv, h14⟩ => ⟨r14, hv, (ls h.im k.re (h4.le (View.le_trans L13 l14))).mono fun v V15 l15 ⟨r15, hv, h15⟩ => ⟨r15, hv, ?_⟩⟩
 refine (ref2_plus_spec (h14.le l15) h15 (by omega) (by omega)).mono fun v V16 l16 ⟨r16, hv, h16⟩ => ⟨r16, hv, ?_⟩
 have L16 := View.le_trans L13 (View.le_trans l14 (View.le_trans l15 l16))
 refine (gs h.re k.im (h3.le L16)).mono fun v V17 l17 ⟨r17, hv, h17⟩ => ⟨r17, hv, (gs h.im k.re (h4.le (View.le_trans L16 l17))).mono fun v V18 l18 ⟨r18, hv, h18⟩ => ⟨r18, hv, ?_⟩⟩
 refine (ref2_plus_spec (h17.le l18) h18 (by omega) (by omega)).mono fun v V19 l19 ⟨r19, hv, h19⟩ => ⟨r19, hv, ?_⟩
 exact (ref2_tight_spec (h16.le (View.le_trans l17 (View.le_trans l18 l19))) h19 (by omega) (by omega)).mono fun v V20 _ hv => ⟨_, hv, rfl⟩
-- squares
def Sk.square (s : Sk) : Sk := s.set.square.span
def Bk.norm (b : Bk) : Sk := (b.re.set.square.add b.im.set.square).span
theorem at0_spec {V : View} : CallV Tryz.prog n_ref1_Whole #[.int .i64 0] V fun v V1 => ∃ r : NumV, v = r.val ∧ CallV Tryz.prog n_ref2_at #[r.val] V1 fun v V2 => ∃ b : BdV, v = b.val ∧ BqAt V2 b (Eb.fin 0) :=
 (ref1_Whole_spec (by omega) (by omega)).mono fun v V1 _ ⟨r, hv, hr⟩ => ⟨r, hv, by rw [Rat.intCast_zero] at hr; exact (ref2_at_spec hr).mono fun v V2 _ ⟨b, hv, hb⟩ => ⟨b, hv, hb⟩⟩

theorem ref1_Re_spec {V : View} {x : NumV} {z : Cq} (h : QAt V x z) (hz : z.sz ≤ 2 ^ 40) : CallV Tryz.prog n_ref1_Re #[x.val] V fun v V' => ∃ r : NumV, v = r.val ∧ QAt V' r ⟨z.re, 0⟩ := by
 have zA := Cq.wA hz; have zB := Cq.wB hz; have zD := Cq.wD hz
 exact ref1_Re_vc x V _ ((ref1_Make_spec h.re (IntAt.zero V) h.under (Rep.re1 z.canon.rep) (by omega) (by rw [Int.natAbs_zero, wn_zero]; omega) (by omega)).mono fun v V' _ ⟨r, hv, hq⟩ => ⟨r, hv, r, rfl, hq⟩)
theorem ref2_isReal_spec {V : View} {x : NumV} {z : Cq} (h : QAt V x z) (hz : z.sz ≤ 2 ^ 40) : CallV Tryz.prog n_ref2_isReal #[x.val] V fun v _ => v = .bool (decide (z.im = 0)) := by
 have side : CallV Tryz.prog n_ref1_Side #[x.val] V fun v _ => v = .int .i64 (cmpR z.im 0) :=
  ref1_Side_vc x V _ ((ref1_Im_spec h hz).mono fun v V1 _ ⟨r, hv, hr⟩ => ⟨r, hv, (ref1_Sign_spec hr).mono fun v V2 _ hv => ⟨_, hv, rfl⟩⟩)
 refine ref2_isReal_vc x V _ (side.mono fun v V1 _ hv => ⟨_, hv, ?_⟩)
 congr 1
 have e : cmpR z.im 0 = 0 ↔ z.im = 0 := by
  unfold cmpR
  by_cases c : z.im < 0
  · rw [if_pos c]; exact ⟨fun h => absurd h (by decide), fun h => by grind⟩
  · rw [if_neg c]
    by_cases d : z.im = 0
    · rw [if_pos d]; exact ⟨fun _ => d, fun _ => rfl⟩
    · rw [if_neg d]; exact ⟨fun h => absurd h (by decide), fun h => absurd h d⟩
 by_cases c : z.im = 0
 · rw [decide_eq_true c, e.2 c]; rfl
 · rw [decide_eq_false c]
   have : ¬ cmpR z.im 0 = 0 := fun g => c (e.1 g)
   simpa using this
theorem real_num {z : Cq} (h : z.im = 0) : z = (⟨0, z.re⟩ : Eb).num := Cq.ext' rfl h
theorem ref2_Span_Has_spec {V : View} {s : Sk} (h : s.ok) {x : NumV} {z : Cq} (hx : QAt V x z) (hz : z.sz ≤ 2 ^ 38) : CallV Tryz.prog n_ref2_Span_Has #[s.v.val, x.val] V fun v _ => v = .bool (decide (z.im = 0) && s.has z.re) := by
 refine ref2_Span_Has_vc s.v x V _ ((ref2_isReal_spec hx (by omega)).mono fun v V1 l1 hv => ⟨_, hv, fun hc => ?_, fun hc => ?_⟩)
 · have hc : z.im = 0 := by simpa using hc
   have e := real_num hc
   have hzz : (⟨0, z.re⟩ : Eb).num.sz ≤ 2 ^ 38 := by rw [← e]; exact hz
   have s1 : (endE s.lo).num.sz ≤ 2 ^ 38 := Nat.le_trans (endE_sz h.lo) (by omega)
   have s2 : (endE s.hi).num.sz ≤ 2 ^ 38 := Nat.le_trans (endE_sz h.hi) (by omega)
   have hx2 : QAt V x ⟨z.re, 0⟩ := by have := hx; rw [e] at this; exact this
   refine (ref2_of_spec h.lo).mono fun v V2 l2 ⟨a, hv, ha⟩ => ⟨a, hv, (ref2_at_spec (hx2.le (View.le_trans l1 l2))).mono fun v V3 l3 ⟨b, hv, hb⟩ => ⟨b, hv, ?_⟩⟩
   refine (ref2_cmp_spec (ha.le l3) hb s1 hzz).mono fun v V4 l4 hv => ⟨_, hv, fun hd => ?_, fun hd => ?_⟩
   · have L4 := View.le_trans l1 (View.le_trans l2 (View.le_trans l3 l4))
     refine (ref2_at_spec (hx2.le L4)).mono fun v V5 l5 ⟨b2, hv, hb2⟩ => ⟨b2, hv, (ref2_of_spec h.hi).mono fun v V6 l6 ⟨a2, hv, ha2⟩ => ⟨a2, hv, ?_⟩⟩
     refine (ref2_cmp_spec (hb2.le l6) ha2 hzz s2).mono fun v V7 _ hv => ⟨_, hv, ?_⟩
     have hd : (endE s.lo).cmp ⟨0, z.re⟩ ≤ 0 := by simpa using hd
     unfold Sk.has; rw [hc, decide_eq_true hd]; simp
   · have hd : ¬ (endE s.lo).cmp ⟨0, z.re⟩ ≤ 0 := by simpa using hd
     unfold Sk.has; rw [decide_eq_false hd]; simp
 · have hc : ¬ z.im = 0 := by simpa using hc
   simp [hc]
theorem ref2_Box_Has_spec {V : View} {b : Bk} (h : b.ok) {x : NumV} {z : Cq} (hx : QAt V x z) (hz : z.sz ≤ 2 ^ 37) : CallV Tryz.prog n_ref2_Box_Has #[b.v.val, x.val] V fun v _ => v = .bool (b.has z) := by
 have hz1 := re1_sz z; have hz2 := im1_sz z
 refine ref2_Box_Has_vc b.v x V _ ((ref1_Re_spec hx (by omega)).mono fun v V1 l1 ⟨r, hv, hr⟩ => ⟨r, hv, ?_⟩)
 refine (ref2_Span_Has_spec h.re hr (by omega)).mono fun v V2 l2 hv => ⟨_, hv, fun hc => ?_, fun hc => ?_⟩
 · have hc : b.re.has z.re = true := by simpa using hc
   refine (ref1_Im_spec (hx.le (View.le_trans l1 l2)) (by omega)).mono fun v V3 l3 ⟨r, hv, hr⟩ => ⟨r, hv, ?_⟩
   refine (ref2_Span_Has_spec h.im hr (by omega)).mono fun v V4 l4 hv => ⟨_, hv, ?_⟩
   unfold Bk.has; rw [hc]; simp
 · have hc : b.re.has z.re = false := by simpa using hc
   unfold Bk.has; rw [hc]; simp
theorem gtK {a b : Int} (ha : inK a) (hb : inK b) : (FloatKind.f64.format.order (wordK a) (wordK b) == some .gt) = decide (b < a) := by
 rw [ord_gt (okK ha) (okK hb), keyK ha, keyK hb]

theorem ref1_Zero_spec {V : View} {x : NumV} {z : Cq} (h : QAt V x z) : CallV Tryz.prog n_ref1_Zero #[x.val] V fun v _ => v = .bool (decide (z = Cq.zero)) := by
 have a := h.re.2.len_zero; have b := h.im.2.len_zero
 have zA := A_zero (z := z); have zB := B_zero (z := z)
 have key : z = Cq.zero ↔ x.re.mag.len = 0 ∧ x.im.mag.len = 0 := by
  rw [a, b, Int.natAbs_eq_zero, Int.natAbs_eq_zero, zA, zB]
  exact ⟨fun e => by rw [e]; exact ⟨rfl, rfl⟩, fun ⟨h1, h2⟩ => Cq.ext' h1 h2⟩
 refine ref1_Zero_vc x V _ ⟨fun hc => ?_, fun hc => ?_⟩
 · have hc : x.re.mag.len = 0 := by have : (x.re.mag.len : Int) = 0 := by simpa using hc
                                    omega
   congr 1
   by_cases d : x.im.mag.len = 0
   · rw [decide_eq_true (key.2 ⟨hc, d⟩), d]; rfl
   · rw [decide_eq_false (fun e => d (key.1 e).2)]; simpa using d
 · have hc : ¬ x.re.mag.len = 0 := by have : ¬ (x.re.mag.len : Int) = 0 := by simpa using hc
                                      omega
   rw [decide_eq_false (fun e => hc (key.1 e).1)]
theorem cast_mul (a : Int) (n : Nat) : ((a * (n : Int) : Int) : Rat) = (a : Rat) * (n : Rat) := by rw [Rat.intCast_mul]; rfl
theorem ref1_Div_spec {V : View} {x y : NumV} {z w : Cq} (hx : QAt V x z) (hy : QAt V y w) (hz : z.sz ≤ 2 ^ 36) (hw : w.sz ≤ 2 ^ 36) :
 CallV Tryz.prog n_ref1_Div #[x.val, y.val] V fun v V' => ∃ (r : NumV) (e : Int), v = .tuple #[r.val, .int .i64 e] ∧ QAt V' r (z.div w) ∧ (w ≠ Cq.zero → e = 0) := by
 have cz := Cq.sz_conj w
 refine ref1_Div_vc x y V _ ((ref1_Zero_spec hy).mono fun v V1 l1 hv => ⟨_, hv, fun hc => ?_, fun hc => ?_⟩)
 · have hc : w = Cq.zero := by simpa using hc
   refine (ref1_Whole_spec (by omega) (by omega)).mono fun v V2 _ ⟨r, hv, hr⟩ => ⟨r, hv, _, _, rfl, ?_, fun h => absurd hc h⟩
   have e : z.div w = ⟨((0 : Int) : Rat), 0⟩ := by
    rw [hc, Rat.intCast_zero]
    refine Cq.ext' ?_ ?_
    · show (z.re * 0 + z.im * 0) / (0 * 0 + 0 * 0) = 0
      have : z.re * 0 + z.im * 0 = (0 : Rat) := by grind
      rw [this, Rat.div_def]; exact Rat.zero_mul _
    · show (z.im * 0 - z.re * 0) / (0 * 0 + 0 * 0) = 0
      have : z.im * 0 - z.re * 0 = (0 : Rat) := by grind
      rw [this, Rat.div_def]; exact Rat.zero_mul _
   rw [e]; exact hr
 have hc : w ≠ Cq.zero := by simpa using hc
 replace hx := hx.le l1; replace hy := hy.le l1
 have norm : CallV Tryz.prog n_ref1_Norm #[y.val] V1 fun v V' => ∃ r : NumV, v = r.val ∧ QAt V' r (w * w.conj) :=
  ref1_Norm_vc y V1 _ ((ref1_Conj_spec hy).mono fun v V2 l2 ⟨r, hv, hr⟩ => ⟨r, hv, (ref1_Mul_spec (hy.le l2) hr (by omega) (by omega)).mono fun v V3 _ ⟨q, hv, hq⟩ => ⟨q, hv, q, rfl, hq⟩⟩)
 refine norm.mono fun v V3 l3 ⟨n, hv, hn⟩ => ⟨n, hv, (ref1_Conj_spec (hy.le l3)).mono fun v V4 l4 ⟨c, hv, hcj⟩ => ⟨c, hv, ?_⟩⟩
 refine (ref1_Mul_spec (hx.le (View.le_trans l3 l4)) hcj (by omega) (by omega)).mono fun v V5 l5 ⟨t, hv, ht⟩ => ⟨t, hv, ?_⟩
 replace hn := hn.le (View.le_trans l4 l5)
 have ns := Cq.sz_mul w w.conj
 have ts := Cq.sz_mul z w.conj
 have n40 : (w * w.conj).sz ≤ 2 ^ 40 := by omega
 have t40 : (z * w.conj).sz ≤ 2 ^ 40 := by omega
 have nA := Cq.wA n40; have nD := Cq.wD n40; have tA := Cq.wA t40; have tB := Cq.wB t40; have tD := Cq.wD t40
 have hD := (w * w.conj).D_pos
 refine (ref1_IntMul_spec ht.re (IntAt.ofNat hn.under) (by omega) (by rw [Int.natAbs_natCast]; omega)).mono fun v V6 l6 ⟨r6, hv, h6⟩ => ⟨r6, hv, ?_⟩
 refine (ref1_IntMul_spec (ht.im.le l6) (IntAt.ofNat (hn.under.le l6)) (by omega) (by rw [Int.natAbs_natCast]; omega)).mono fun v V7 l7 ⟨r7, hv, h7⟩ => ⟨r7, hv, ?_⟩
 have L := View.le_trans l6 l7
 refine (ref1_NatMul_spec (ht.under.le L) (hn.re.2.le L) (by omega) (by omega)).mono fun v V8 l8 ⟨r8, hv, h8⟩ => ⟨r8, hv, ?_⟩
 have p1 := wn_mul_le (z * w.conj).D (w * w.conj).A.natAbs
 have q1 := wn_muli tA (b := ((w * w.conj).D : Int)) (by rw [Int.natAbs_natCast]; exact nD)
 have q2 := wn_muli tB (b := ((w * w.conj).D : Int)) (by rw [Int.natAbs_natCast]; exact nD)
 -- the norm is a number above 0
 have nre : (w * w.conj).re = w.norm := by show w.re * w.re - w.im * -w.im = w.re * w.re + w.im * w.im; grind
 have npos : 0 < w.norm := by
  have h1 : 0 ≤ w.re * w.re := mul_self_nonneg _
  have h2 : 0 ≤ w.im * w.im := mul_self_nonneg _
  refine Rat.not_le.1 fun g => hc ?_
  have g : w.re * w.re + w.im * w.im ≤ 0 := g
  have e1 : w.re * w.re = 0 := by grind
  have e2 : w.im * w.im = 0 := by grind
  exact Cq.ext' (by rcases Rat.mul_eq_zero.1 e1 with h | h <;> exact h) (by rcases Rat.mul_eq_zero.1 e2 with h | h <;> exact h)
 have nrep := (w * w.conj).canon.rep
 have hA : 0 < (w * w.conj).A := by
  refine Int.not_le.1 fun g => ?_
  have e := nrep.re
  rw [nre] at e
  have : ((w * w.conj).A : Rat) / ((w * w.conj).D : Rat) ≤ 0 := by
   rw [Rat.div_def]
   have dp : (0 : Rat) < ((w * w.conj).D : Rat) := by have : 0 < (w * w.conj).D := by omega
                                                      exact_mod_cast this
   have ip : (0 : Rat) ≤ ((w * w.conj).D : Rat)⁻¹ := Rat.le_of_lt (Rat.inv_pos.2 dp)
   have gq : ((w * w.conj).A : Rat) ≤ 0 := by exact_mod_cast g
   have := Rat.mul_le_mul_of_nonneg_right gq ip
   rw [Rat.zero_mul] at this; exact this
  grind
 have R : Rep (z.div w) ((z * w.conj).A * ((w * w.conj).D : Int)) ((z * w.conj).B * ((w * w.conj).D : Int)) ((z * w.conj).D * (w * w.conj).A.natAbs) := by
  have trep := (z * w.conj).canon.rep
  have tre : (z * w.conj).re = z.re * w.re + z.im * w.im := by show z.re * w.re - z.im * -w.im = _; grind
  have tim : (z * w.conj).im = z.im * w.re - z.re * w.im := by show z.re * -w.im + z.im * w.re = _; grind
  have e1 := trep.re; have e2 := trep.im; have e3 := nrep.re
  rw [tre] at e1; rw [tim] at e2; rw [nre] at e3
  have dn : ((z * w.conj).D : Rat) ≠ 0 := natCast_ne (z * w.conj).D_pos
  have dm : ((w * w.conj).D : Rat) ≠ 0 := natCast_ne hD
  have an : (((w * w.conj).A.natAbs : Nat) : Rat) = ((w * w.conj).A : Rat) := by
   have : (((w * w.conj).A.natAbs : Nat) : Int) = (w * w.conj).A := by omega
   exact congrArg (fun x : Int => (x : Rat)) this
  have am : ((w * w.conj).A : Rat) ≠ 0 := by
   intro g
   have : (w * w.conj).A = 0 := by exact_mod_cast g
   omega
  refine ⟨?_, ?_, ?_⟩
  · exact Nat.pos_iff_ne_zero.1 (Nat.mul_pos (by have := (z * w.conj).D_pos; omega) (by omega))
  · show (z.re * w.re + z.im * w.im) / w.norm = _
    rw [e1, e3, cast_mul (z * w.conj).A, Rat.natCast_mul, an]; grind
  · show (z.im * w.re - z.re * w.im) / w.norm = _
    rw [e2, e3, cast_mul (z * w.conj).B, Rat.natCast_mul, an]; grind
 refine (ref1_Make_spec (h6.le (View.le_trans l7 l8)) (h7.le l8) h8 R (by omega) (by omega) (by omega)).mono fun v V9 _ ⟨r, hv, hr⟩ => ⟨r, hv, _, _, rfl, hr, fun _ => rfl⟩
theorem ref2_ratio_spec {V : View} {a b : BdV} {e f : Eb} (ha : BqAt V a e) (hb : BqAt V b f) (he : e.num.sz ≤ 2 ^ 30) (hf : f.num.sz ≤ 2 ^ 30) :
 CallV Tryz.prog n_ref2_ratio #[a.val, b.val] V fun v V' => ∃ c : BdV, v = c.val ∧ BqAt V' c (shareV e f) := by
 have zero : shareV e f = ⟨0, 0⟩ → ∀ {V : View}, CallV Tryz.prog n_ref1_Whole #[.int .i64 0] V fun v V1 => ∃ r : NumV, v = r.val ∧ CallV Tryz.prog n_ref2_at #[r.val] V1 fun v V2 => ∃ b : BdV, v = b.val ∧ ∃ c : BdV, b.val = c.val ∧ BqAt V2 c (shareV e f) := by
  intro h V
  rw [h]
  exact at0_spec.mono fun v V1 _ ⟨r, hv, hr⟩ => ⟨r, hv, hr.mono fun v V2 _ ⟨b, hv, hb⟩ => ⟨b, hv, b, rfl, hb⟩⟩
 refine ref2_ratio_vc a b V _ ⟨fun hc => ?_, fun hc => ⟨fun hd => ?_, fun hd => ?_⟩⟩
 · have hc : e.inf ≠ 0 := by rw [← ha.inf]; simpa using hc
   exact zero (by unfold shareV; rw [if_pos (.inl hc)])
 · have hd : f.inf ≠ 0 := by rw [← hb.inf]; simpa using hd
   exact zero (by unfold shareV; rw [if_pos (.inr hd)])
 · have hc : ¬ e.inf ≠ 0 := by rw [← ha.inf]; simpa using hc
   have hd : ¬ f.inf ≠ 0 := by rw [← hb.inf]; simpa using hd
   have s1 := Cq.sz_mul e.num e.num; have s2 := Cq.sz_mul f.num f.num; have s3 := Cq.sz_add (e.num * e.num) (f.num * f.num)
   refine (ref1_Mul_spec ha.num ha.num (by omega) (by omega)).mono fun v V1 l1 ⟨r1, hv, h1⟩ => ⟨r1, hv, (ref1_Mul_spec (hb.num.le l1) (hb.num.le l1) (by omega) (by omega)).mono fun v V2 l2 ⟨r2, hv, h2⟩ => ⟨r2, hv, ?_⟩⟩
   refine (ref1_Add_spec (h1.le l2) h2 (by omega) (by omega)).mono fun v V3 l3 ⟨r3, hv, h3⟩ => ⟨r3, hv, ?_⟩
   refine (ref1_Div_spec (ha.num.le (View.le_trans l1 (View.le_trans l2 l3))) h3 (by omega) (by omega)).mono fun v V4 l4 ⟨r4, e4, hv, h4, _⟩ => ⟨r4, e4, hv, ?_⟩
   have e5 : e.num.div (e.num * e.num + f.num * f.num) = ⟨e.x / (e.x * e.x + f.x * f.x), 0⟩ := share_div e.x f.x
   rw [e5] at h4
   refine (ref2_at_spec h4).mono fun v V5 _ ⟨c, hv, hcc⟩ => ⟨c, hv, c, rfl, ?_⟩
   unfold shareV; rw [if_neg (by rintro (h | h); exact hc h; exact hd h)]; exact hcc
def GrowQ (V : View) (n cap : Nat) (o : List Value) (es : List Eb) : Prop := ∃ l, LstOk 6 n cap o l ∧ Cells 6 bqC V l es ∧ n = es.length
theorem GrowQ.le {V V' : View} (hle : V.le V') {n cap : Nat} {o : List Value} {es : List Eb} (h : GrowQ V n cap o es) : GrowQ V' n cap o es := by
 obtain ⟨l, h1, h2, h3⟩ := h; exact ⟨l, h1, h2.imp (bqC.le hle), h3⟩
theorem GrowQ.push {V1 : View} {n cap : Nat} {o : List Value} {es : List Eb} {r : BdV} {e : Eb} {b : Nat} {R : Nat → Nat → List Value → Prop} (h : GrowQ V1 n cap o es) (hr : BqAt V1 r e) (hl : es.length ≤ 2 ^ 20)
 (hb : V1 b = some #[.int .i64 r.inf, .bool r.x.re.neg, r.x.re.mag.v, .bool r.x.im.neg, r.x.im.mag.v, r.x.under.v]) (hR : ∀ c l3, GrowQ V1 (n + 1) c l3 (es ++ [e]) → R (n + 1) c l3) :
 ∃ (l1 l2 : List Value), LstOk 6 n cap o l1 ∧ View.has V1 (some (Addr.mk b 0 none)) l2 ∧ List.length l2 = 1 * 6 ∧ (∀ v ∈ l2, Value.oneCell' v = true) ∧ n + 1 ≤ maxLen ∧ (n + 1) * 96 ≤ 140737488355328 ∧
  ∀ (c1 : Nat) (l3 : List Value), LstOk 6 (n + 1) c1 l3 (l1 ++ l2) → R (n + 1) c1 l3 := by
 obtain ⟨l, h1, h2, h3⟩ := h
 refine ⟨l, _, h1, has_bd (l := [.int .i64 r.inf, .bool r.x.re.neg, r.x.re.mag.v, .bool r.x.im.neg, r.x.im.mag.v, r.x.under.v]) hb, rfl, oneCell_bd r, Nat.le_trans (show n + 1 ≤ 2 ^ 20 + 1 by omega) (by decide), by omega, fun c1 l3 hl3 => hR _ _ ⟨_, hl3, ?_, by simp; omega⟩⟩
 exact Cells.append h2 (Cells.one rfl ⟨r, rfl, hr⟩)
theorem two_getQ {V : View} {b : Nat} {e1 e2 : Eb} (h : BqsAt V ⟨some ⟨b, 0, none⟩, 2, 2⟩ [e1, e2]) {i : Nat} (hi : i < 2) :
 ((0 : Int) ≤ (i : Int) ∧ (i : Int) < (2 : Nat) ∧ Option.isSome (some (Addr.mk b 0 none)) = true) ∧
 ∃ x : BdV, View.has V (Option.map (fun q => Addr.add q (Int.toNat (i : Int) * 6)) (some (Addr.mk b 0 none))) (x.val).cells.toList ∧ Option.isSome (Option.map (fun q => Addr.add q (Int.toNat (i : Int) * 6)) (some (Addr.mk b 0 none))) = true ∧ BqAt V x (at2 e1 e2 i) := by
 obtain ⟨hb, x, ⟨b0, hx, hb0⟩, _, hh, hs⟩ := ListAt.get h (t := (i : Int)) (by omega) (z := at2 e1 e2 i) (by
  rw [Int.toNat_natCast]
  rcases (by omega : i = 0 ∨ i = 1) with rfl | rfl <;> rfl)
 exact ⟨hb, b0, hx ▸ hh, hs, hb0⟩
theorem ratios_sz {x y : Es} (sx : Es.szle x (2 ^ 12)) (sy : Es.szle y (2 ^ 12)) : ∀ e ∈ ratL x y, e.num.sz ≤ 2 ^ 18 := by
 have v : ∀ {a b : Eb}, a.num.sz ≤ 2 ^ 12 → b.num.sz ≤ 2 ^ 12 → (shareV a b).num.sz ≤ 2 ^ 18 := fun ha hb => Nat.le_trans (shareV_sz ha hb) (by omega)
 have z : (Eb.fin 0).num.sz ≤ 2 ^ 12 := Nat.le_trans zero_sz (by omega)
 have A : ∀ {a : Eb}, a.num.sz ≤ 2 ^ 12 → ∀ e ∈ rtA y a, e.num.sz ≤ 2 ^ 18 := by
  intro a ha e he
  unfold rtA rtZ at he
  simp only [List.mem_append, List.mem_cons, List.not_mem_nil, or_false] at he
  rcases he with (rfl | rfl) | he
  · exact v ha sy.1
  · exact v ha sy.2
  · split at he
    · simp only [List.mem_cons, List.not_mem_nil, or_false] at he; subst he; exact v ha z
    · simp at he
 have Q : ∀ {b p : Eb}, b.num.sz ≤ 2 ^ 12 → p.num.sz ≤ 2 ^ 12 → ∀ e ∈ rtQ x b p, e.num.sz ≤ 2 ^ 18 := by
  intro b p hb hp e he
  unfold rtQ at he
  split at he
  · simp only [List.mem_cons, List.not_mem_nil, or_false] at he; subst he; exact v hp hb
  · simp at he
 have B : ∀ {b : Eb}, b.num.sz ≤ 2 ^ 12 → ∀ e ∈ rtB x b, e.num.sz ≤ 2 ^ 18 := by
  intro b hb e he
  unfold rtB at he
  split at he
  · simp at he
  · rcases List.mem_append.1 he with h | h
    · exact Q hb hb e h
    · exact Q hb (by rw [sz_neg_num]; exact hb) e h
 intro e he
 rcases List.mem_append.1 he with h | h
 · rcases List.mem_append.1 h with h | h
   · exact A sx.1 e h
   · exact B sy.1 e h
 · rcases List.mem_append.1 h with h | h
   · exact A sx.2 e h
   · exact B sy.2 e h
theorem ref2_ratios_spec {V : View} {s t : Sk} (hs : s.ok) (ht : t.ok) : CallV Tryz.prog n_ref2_ratios #[s.v.val, t.v.val] V fun v V' => ∃ q : Sl, v = q.v ∧ BqsAt V' q (ratL s.set t.set) := by
 obtain ⟨x, hx⟩ : ∃ x, x = s.set := ⟨_, rfl⟩
 obtain ⟨y, hy⟩ : ∃ y, y = t.set := ⟨_, rfl⟩
 have sx : Es.szle x (2 ^ 12) := by rw [hx]; exact szle12 hs
 have sy : Es.szle y (2 ^ 12) := by rw [hy]; exact szle12 ht
 have yz : y.zero = (decide (t.lo ≤ 0) && decide (0 ≤ t.hi)) := by rw [hy]; exact set_zero_eq ht
 rw [← hx, ← hy]
 have big : ∀ {e : Eb}, e.num.sz ≤ 2 ^ 12 → e.num.sz ≤ 2 ^ 30 := fun h => Nat.le_trans h (by omega)
 have big38 : ∀ {e : Eb}, e.num.sz ≤ 2 ^ 12 → e.num.sz ≤ 2 ^ 38 := fun h => Nat.le_trans h (by omega)
 refine ref2_ratios_vc s.v t.v V _
  (fun _ w V' => ∃ i : Nat, i ≤ 2 ∧ w.t8 = i ∧ GrowQ V' w.t5l w.t5c w.o5 (preR x y i)) (fun _ w _ => (2 - w.t8).toNat)
  (fun c w V' => ∃ j : Nat, j ≤ 2 ∧ w.t9 = j ∧ GrowQ V' w.t5l w.t5c w.o5 (preR x y c.t8.toNat ++ inA y (at2 x.lo x.hi c.t8.toNat) j)) (fun _ w _ => (2 - w.t9).toNat)
  (fun c w V' => GrowQ V' w.t5l w.t5c w.o5 (preR x y c.t8.toNat ++ rtA y (at2 x.lo x.hi c.t8.toNat)))
  (fun c w V' => ∃ j : Nat, j ≤ 2 ∧ w.t89 = j ∧ GrowQ V' w.t5l w.t5c w.o5 (preR x y c.t8.toNat ++ rtA y (at2 x.lo x.hi c.t8.toNat) ++ inQ x (at2 y.lo y.hi c.t8.toNat) j)) (fun _ w _ => (2 - w.t89).toNat) ?_
 refine (ref2_of_spec hs.lo).mono fun v V1 l1 ⟨r1, hv, h1⟩ => ⟨r1, hv, (ref2_of_spec hs.hi).mono fun v V2 l2 ⟨r2, hv, h2⟩ => ⟨r2, hv, ?_⟩⟩
 refine (ref2_of_spec ht.lo).mono fun v V3 l3 ⟨r3, hv, h3⟩ => ⟨r3, hv, (ref2_of_spec ht.hi).mono fun v V4 l4 ⟨r4, hv, h4⟩ => ⟨r4, hv, fun b1 V5 l5 _ hb1 b2 V6 l6 _ hb2 => ?_⟩⟩
 have xs : BqsAt V6 ⟨some ⟨b1, 0, none⟩, 2, 2⟩ [x.lo, x.hi] := by
  rw [hx]
  exact (two_bqs (h1.le (View.le_trans l2 (View.le_trans l3 (View.le_trans l4 l5)))) (h2.le (View.le_trans l3 (View.le_trans l4 l5))) hb1).le l6
 have ys : BqsAt V6 ⟨some ⟨b2, 0, none⟩, 2, 2⟩ [y.lo, y.hi] := by
  rw [hy]
  exact two_bqs (h3.le (View.le_trans l4 (View.le_trans l5 l6))) (h4.le (View.le_trans l5 l6)) hb2
 refine ⟨⟨0, by omega, rfl, [], LstOk.nil, rfl, rfl⟩, ?_⟩
 rintro ⟨n0, c0, t8, o0⟩ V7 l7 ⟨i, hi, rfl, hg⟩
 dsimp only at hg ⊢
 refine ⟨fun hlt => ?_, fun hge => ?_⟩
 · simp only [decide_eq_true_eq] at hlt
   have hi2 : i < 2 := by omega
   have ln0 := preR_len x y i
   have w1 : IntKind.i64.wrap ((i : Int) + 1) = ((i + 1 : Nat) : Int) := by rw [i64w (by omega) (by omega)]; omega
   have sxi : (at2 x.lo x.hi i).num.sz ≤ 2 ^ 12 := at2_sz sx.1 sx.2
   have syi : (at2 y.lo y.hi i).num.sz ≤ 2 ^ 12 := at2_sz sy.1 sy.2
   rw [Int.toNat_natCast (n := i)]
   refine ⟨⟨0, by omega, rfl, by simpa [inA] using hg⟩, ?_⟩
   rintro ⟨n1, c1, t9, o1⟩ V8 l8 ⟨j, hj, rfl, hg1⟩
   dsimp only at hg1 ⊢
   have ln1 := inA_len y (at2 x.lo x.hi i) j
   have xs8 := xs.le (View.le_trans l7 l8)
   have ys8 := ys.le (View.le_trans l7 l8)
   obtain ⟨bi, xi, xh, xso, hxi⟩ := two_getQ xs8 hi2
   rw [Int.toNat_natCast (n := i)] at xh xso
   refine ⟨fun hlt2 => ?_, fun hge2 => ?_⟩
   · simp only [decide_eq_true_eq] at hlt2
     have hj2 : j < 2 := by omega
     obtain ⟨bj, yj, yh, yso, hyj⟩ := two_getQ ys8 hj2
     refine ⟨bi, xi, xh, xso, bj, yj, yh, yso, ?_⟩
     refine (ref2_ratio_spec hxi hyj (big sxi) (big (at2_sz sy.1 sy.2))).mono fun v V9 l9 ⟨r5, hv, h5⟩ => ⟨r5, hv, fun b3 V10 l10 _ hb3 => ?_⟩
     refine (hg1.le (View.le_trans l9 l10)).push (R := fun n c l => (∃ j' : Nat, j' ≤ 2 ∧ IntKind.i64.wrap ((j : Int) + 1) = j' ∧ GrowQ V10 n c l (preR x y i ++ inA y (at2 x.lo x.hi i) j')) ∧ (2 - IntKind.i64.wrap ((j : Int) + 1)).toNat < (2 - (j : Int)).toNat) (h5.le l10) (by simp only [List.length_append]; omega) hb3 fun c l hg3 => ?_
     rw [i64w (by omega) (by omega)]
     rw [List.append_assoc, inA_succ y _ hj2] at hg3
     exact ⟨⟨j + 1, by omega, by simp, hg3⟩, by omega⟩
   · simp only [decide_eq_false_iff_not] at hge2
     have hj2 : j = 2 := by omega
     subst hj2
     have eA : inA y (at2 x.lo x.hi i) 2 ++ rtZ y (at2 x.lo x.hi i) = rtA y (at2 x.lo x.hi i) := rfl
     have skip : rtZ y (at2 x.lo x.hi i) = [] → GrowQ V8 n1 c1 o1 (preR x y i ++ rtA y (at2 x.lo x.hi i)) := by
      intro h
      rw [← eA, h, List.append_nil]; exact hg1
     have ld : View.load V8 (Option.map (fun q => Addr.add q 0) (Option.map (fun q => Addr.add q (i * 6)) (some (Addr.mk b1 0 none)))) = some (.int .i64 xi.inf) := xh 0 _ rfl
     have lo0 : ((FloatKind.f64.format.order (wordK t.lo) 0 == some .lt) || (FloatKind.f64.format.order (wordK t.lo) 0 == some .eq)) = decide (t.lo ≤ 0) := leK ht.lo zero_in
     have hi0 : ((FloatKind.f64.format.order (wordK t.hi) 0 == some .gt) || (FloatKind.f64.format.order (wordK t.hi) 0 == some .eq)) = decide (0 ≤ t.hi) := geK ht.hi zero_in
     refine ⟨⟨bi, xso, xi.inf, ld, fun ha => ⟨fun hb => ⟨fun hc => ?_, fun hc => ?_⟩, fun hb => ?_⟩, fun ha => ?_⟩, ?_⟩
     · have ha : (at2 x.lo x.hi i).inf = 0 := by rw [← hxi.inf]; simpa using ha
       have hz : y.zero = true := by rw [yz]; have hb := lo0 ▸ hb; have hc := hi0 ▸ hc; rw [hb, hc]; rfl
       refine ⟨bi, xi, xh, xso, (ref1_Whole_spec (by omega) (by omega)).mono fun v V12 l12 ⟨r6, hv, h6⟩ => ⟨r6, hv, ?_⟩⟩
       rw [Rat.intCast_zero] at h6
       refine (ref2_at_spec h6).mono fun v V13 l13 ⟨r7, hv, h7⟩ => ⟨r7, hv, ?_⟩
       refine (ref2_ratio_spec (hxi.le (View.le_trans l12 l13)) h7 (big sxi) (Nat.le_trans zero_sz (by omega))).mono fun v V14 l14 ⟨r8, hv, h8⟩ => ⟨r8, hv, fun b4 V15 l15 _ hb4 => ?_⟩
       refine (hg1.le (View.le_trans l12 (View.le_trans l13 (View.le_trans l14 l15)))).push (R := fun n c l => GrowQ V15 n c l (preR x y i ++ rtA y (at2 x.lo x.hi i))) (h8.le l15) (by simp only [List.length_append]; omega) hb4 fun c l hg3 => ?_
       rw [← eA]
       have : rtZ y (at2 x.lo x.hi i) = [shareV (at2 x.lo x.hi i) (Eb.fin 0)] := by unfold rtZ; rw [if_pos ⟨ha, hz⟩]
       rw [this, ← List.append_assoc]; exact hg3
     · refine skip ?_
       unfold rtZ; rw [if_neg]; rintro ⟨_, g⟩
       rw [yz] at g; have hc := hi0 ▸ hc; rw [hc, Bool.and_false] at g; exact absurd g (by decide)
     · refine skip ?_
       unfold rtZ; rw [if_neg]; rintro ⟨_, g⟩
       rw [yz] at g; have hb := lo0 ▸ hb; rw [hb, Bool.false_and] at g; exact absurd g (by decide)
     · have ha : ¬ (at2 x.lo x.hi i).inf = 0 := by rw [← hxi.inf]; simpa using ha
       refine skip ?_
       unfold rtZ; rw [if_neg]; rintro ⟨g, _⟩; exact ha g
     rintro ⟨n2, c2, o2⟩ V11 l11 hg2
     dsimp only at hg2 ⊢
     have ln2 := rtA_len y (at2 x.lo x.hi i)
     have xs11 := xs8.le l11; have ys11 := ys8.le l11
     obtain ⟨bi2, yi, yih, yiso, hyi⟩ := two_getQ ys11 hi2
     rw [Int.toNat_natCast (n := i)] at yih yiso
     have ld2 : View.load V11 (Option.map (fun q => Addr.add q 0) (Option.map (fun q => Addr.add q (i * 6)) (some (Addr.mk b2 0 none)))) = some (.int .i64 yi.inf) := yih 0 _ rfl
     have eR : ∀ {l}, rtB x (at2 y.lo y.hi i) = l → preR x y i ++ rtA y (at2 x.lo x.hi i) ++ l = preR x y (i + 1) := by
      intro l h; rw [← preR_succ x y hi2, ← h, List.append_assoc]; rfl
     refine ⟨bi2, yiso, yi.inf, ld2, fun hf => ?_, fun hf => ?_⟩
     · have hf : (at2 y.lo y.hi i).inf ≠ 0 := by rw [← hyi.inf]; simpa using hf
       rw [w1]
       refine ⟨⟨i + 1, by omega, rfl, ?_⟩, by omega⟩
       have := eR (l := []) (by unfold rtB; rw [if_pos hf])
       rw [List.append_nil] at this
       show GrowQ V11 n2 c2 o2 _
       rw [← this]; exact hg2
     · have hf : ¬ (at2 y.lo y.hi i).inf ≠ 0 := by rw [← hyi.inf]; simpa using hf
       refine ⟨bi2, yi, yih, yiso, bi2, yi, yih, yiso, ?_⟩
       refine (ref2_minus_spec hyi).mono fun v V16 l16 ⟨r9, hv, h9⟩ => ⟨r9, hv, fun b5 V17 l17 _ hb5 => ?_⟩
       have zs := two_bqs (hyi.le (View.le_trans l16 l17)) (h9.le l17) hb5
       have sn : (at2 y.lo y.hi i).neg.num.sz ≤ 2 ^ 12 := by rw [sz_neg_num]; exact syi
       refine ⟨⟨0, by omega, rfl, ?_⟩, ?_⟩
       · show GrowQ V17 n2 c2 o2 _
         simpa [inQ] using hg2.le (View.le_trans l16 l17)
       rintro ⟨n3, c3, t89, o3⟩ V18 l18 ⟨k, hk, rfl, hg3⟩
       dsimp only at hg3 ⊢
       have ln3 := inQ_len x (at2 y.lo y.hi i) k
       have L18 := View.le_trans l16 (View.le_trans l17 l18)
       have xs18 := xs11.le L18; have ys18 := ys11.le L18
       refine ⟨fun hlt3 => ?_, fun hge3 => ?_⟩
       · simp only [decide_eq_true_eq] at hlt3
         have hk2 : k < 2 := by omega
         have w2 : IntKind.i64.wrap ((k : Int) + 1) = ((k + 1 : Nat) : Int) := by rw [i64w (by omega) (by omega)]; omega
         obtain ⟨bk, pk, pkh, pkso, hpk⟩ := two_getQ (zs.le l18) hk2
         obtain ⟨bx0, x0, x0h, x0so, hx0⟩ := two_getQ xs18 (i := 0) (by omega)
         have hx0 : BqAt V18 x0 x.lo := hx0
         have spk : (at2 (at2 y.lo y.hi i) (at2 y.lo y.hi i).neg k).num.sz ≤ 2 ^ 12 := at2_sz syi sn
         have stay : ∀ {V' : View} {n c : Nat} {o : List Value}, GrowQ V' n c o (preR x y i ++ rtA y (at2 x.lo x.hi i) ++ inQ x (at2 y.lo y.hi i) k ++ rtQ x (at2 y.lo y.hi i) (at2 (at2 y.lo y.hi i) (at2 y.lo y.hi i).neg k)) →
          (∃ j : Nat, j ≤ 2 ∧ IntKind.i64.wrap ((k : Int) + 1) = j ∧ GrowQ V' n c o (preR x y i ++ rtA y (at2 x.lo x.hi i) ++ inQ x (at2 y.lo y.hi i) j)) ∧ (2 - IntKind.i64.wrap ((k : Int) + 1)).toNat < (2 - (k : Int)).toNat := by
          intro V' n c o h
          rw [w2]
          rw [List.append_assoc (preR x y i ++ _), inQ_succ x _ hk2] at h
          exact ⟨⟨k + 1, by omega, rfl, h⟩, by omega⟩
         have none : ∀ {V' : View}, V18.le V' → ¬ (x.lo.cmp (at2 (at2 y.lo y.hi i) (at2 y.lo y.hi i).neg k) ≤ 0 ∧ (at2 (at2 y.lo y.hi i) (at2 y.lo y.hi i).neg k).cmp x.hi ≤ 0) →
          GrowQ V' n3 c3 o3 (preR x y i ++ rtA y (at2 x.lo x.hi i) ++ inQ x (at2 y.lo y.hi i) k ++ rtQ x (at2 y.lo y.hi i) (at2 (at2 y.lo y.hi i) (at2 y.lo y.hi i).neg k)) := by
          intro V' hle hn
          have : rtQ x (at2 y.lo y.hi i) (at2 (at2 y.lo y.hi i) (at2 y.lo y.hi i).neg k) = [] := by unfold rtQ; rw [if_neg hn]
          rw [this, List.append_nil]; exact hg3.le hle
         refine ⟨bk, pk, pkh, pkso, bx0, x0, x0h, x0so, ?_⟩
         refine (ref2_cmp_spec hx0 hpk (big38 sx.1) (big38 spk)).mono fun v V19 l19 hv => ⟨_, hv, fun hd => ?_, fun hd => ?_⟩
         · have hd : x.lo.cmp (at2 (at2 y.lo y.hi i) (at2 y.lo y.hi i).neg k) ≤ 0 := by simpa using hd
           obtain ⟨bx1, x1, x1h, x1so, hx1⟩ := two_getQ (xs18.le l19) (i := 1) (by omega)
           have hx1 : BqAt V19 x1 x.hi := hx1
           refine ⟨bx1, x1, x1h, x1so, ?_⟩
           refine (ref2_cmp_spec (hpk.le l19) hx1 (big38 spk) (big38 sx.2)).mono fun v V20 l20 hv => ⟨_, hv, fun he => ?_, fun he => ?_⟩
           · have he : (at2 (at2 y.lo y.hi i) (at2 y.lo y.hi i).neg k).cmp x.hi ≤ 0 := by simpa using he
             have L20 := View.le_trans l19 l20
             obtain ⟨by2, y2, y2h, y2so, hy2⟩ := two_getQ (ys18.le L20) hi2
             refine ⟨by2, y2, y2h, y2so, ?_⟩
             refine (ref2_ratio_spec (hpk.le L20) hy2 (big spk) (big syi)).mono fun v V21 l21 ⟨r12, hv, h12⟩ => ⟨r12, hv, fun b6 V22 l22 _ hb6 => ?_⟩
             refine (hg3.le (View.le_trans L20 (View.le_trans l21 l22))).push (R := fun n c l => (∃ j : Nat, j ≤ 2 ∧ IntKind.i64.wrap ((k : Int) + 1) = j ∧ GrowQ V22 n c l (preR x y i ++ rtA y (at2 x.lo x.hi i) ++ inQ x (at2 y.lo y.hi i) j)) ∧ (2 - IntKind.i64.wrap ((k : Int) + 1)).toNat < (2 - (k : Int)).toNat) (h12.le l22) (by simp only [List.length_append]; omega) hb6 fun c l hg4 => stay ?_
             have : rtQ x (at2 y.lo y.hi i) (at2 (at2 y.lo y.hi i) (at2 y.lo y.hi i).neg k) = [shareV (at2 (at2 y.lo y.hi i) (at2 y.lo y.hi i).neg k) (at2 y.lo y.hi i)] := by unfold rtQ; rw [if_pos ⟨hd, he⟩]
             rw [this]; exact hg4
           · have he : ¬ (at2 (at2 y.lo y.hi i) (at2 y.lo y.hi i).neg k).cmp x.hi ≤ 0 := by simpa using he
             exact stay (none (View.le_trans l19 l20) fun h => he h.2)
         · have hd : ¬ x.lo.cmp (at2 (at2 y.lo y.hi i) (at2 y.lo y.hi i).neg k) ≤ 0 := by simpa using hd
           exact stay (none l19 fun h => hd h.1)
       · simp only [decide_eq_false_iff_not] at hge3
         have hk2 : k = 2 := by omega
         subst hk2
         rw [w1]
         refine ⟨⟨i + 1, by omega, rfl, ?_⟩, by omega⟩
         show GrowQ V18 n3 c3 o3 _
         rw [← eR (l := inQ x (at2 y.lo y.hi i) 2) (by unfold rtB; rw [if_neg hf]; rfl)]; exact hg3
 · simp only [decide_eq_false_iff_not] at hge
   have hi2 : i = 2 := by omega
   subst hi2
   intro b7 V23 l23 hb7
   obtain ⟨o, ho, hcs, hn⟩ := hg.le l23
   exact ⟨_, rfl, ListAt.of_lst ho hb7 hcs hn⟩
theorem ref2_Box_Clear_spec {V : View} {b : Bk} (h : b.ok) : CallV Tryz.prog n_ref2_Box_Clear #[b.v.val] V fun v _ => v = .bool b.clear := by
 refine ref2_Box_Clear_vc b.v V _ ((ref1_Whole_spec (by omega) (by omega)).mono fun v V1 _ ⟨r, hv, hr⟩ => ⟨r, hv, ?_⟩)
 rw [Rat.intCast_zero] at hr
 exact (ref2_Box_Has_spec h hr (Nat.le_trans Cq.sz_zero (by omega))).mono fun v V2 _ hv => ⟨_, hv, rfl⟩
theorem ref2_Box_Inv_spec {V : View} {b : Bk} (h : b.ok) (p : b.proper) : CallV Tryz.prog n_ref2_Box_Inv #[b.v.val] V fun v _ => v = .tuple #[b.inv.v.val, .int .i64 b.invE] := by
 refine ref2_Box_Inv_vc b.v V _ ((ref2_Box_Clear_spec h).mono fun v V1 _ hv => ⟨_, hv, fun hc => ?_, fun hc => ?_⟩)
 · have hc : b.clear = false := by simpa using hc
   unfold Bk.inv Bk.invE; rw [hc]; rfl
 · have hc : b.clear = true := by simpa using hc
   have hz : ¬ (b.re.set.zero = true ∧ b.im.set.zero = true) := by
    intro g
    have : b.has Cq.zero = true := by
     show (b.re.has 0 && b.im.has 0) = true
     rw [has_zero, has_zero, g.1, g.2]; rfl
    unfold Bk.clear at hc; rw [this] at hc; exact absurd hc (by decide)
   have s1 := szle12 h.re; have s2 := szle12 h.im
   have e1 : ∀ way, way = 1 ∨ way = -1 → Eb.pick way (ratL b.re.set b.im.set) = Eb.pick way (shareL b.re.set b.im.set) := fun way hw => ratL_pick (endE_ok _) (endE_ok _) (endE_ok _) (endE_ok _) (end_zero h.re p.1) (end_zero h.im p.2) hz hw
   have e2 : ∀ way, way = 1 ∨ way = -1 → Eb.pick way (ratL b.im.set b.re.set) = Eb.pick way (shareL b.im.set b.re.set) := fun way hw => ratL_pick (endE_ok _) (endE_ok _) (endE_ok _) (endE_ok _) (end_zero h.im p.2) (end_zero h.re p.1) (fun g => hz ⟨g.2, g.1⟩) hw
   have z1 := ratios_sz s1 s2; have z2 := ratios_sz s2 s1
   have z1' : ∀ e ∈ ratL b.re.set b.im.set, e.num.sz ≤ 2 ^ 38 := fun e he => Nat.le_trans (z1 e he) (by omega)
   have z2' : ∀ e ∈ ratL b.im.set b.re.set, e.num.sz ≤ 2 ^ 38 := fun e he => Nat.le_trans (z2 e he) (by omega)
   have n1 : (ratL b.re.set b.im.set).length ≤ 2 ^ 32 := Nat.le_trans (preR_len _ _ 2) (by omega)
   have n2 : (ratL b.im.set b.re.set).length ≤ 2 ^ 32 := Nat.le_trans (preR_len _ _ 2) (by omega)
   have k1 := fun way => pick_sz (way := way) (ratL_ne _ _) z1
   have k2 := fun way => pick_sz (way := way) (ratL_ne _ _) z2
   have q1 := k1 (-1); have q2 := k1 1; have q3 := k2 (-1); have q4 := k2 1
   have m3 := sz_neg_num (Eb.pick (-1) (ratL b.im.set b.re.set)); have m4 := sz_neg_num (Eb.pick 1 (ratL b.im.set b.re.set))
   refine (ref2_ratios_spec h.re h.im).mono fun v V2 l2 ⟨t2, hv, h2⟩ => ⟨t2, hv, (ref2_ratios_spec h.im h.re).mono fun v V3 l3 ⟨t3, hv, h3⟩ => ⟨t3, hv, ?_⟩⟩
   replace h2 := h2.le l3
   refine (ref2_least_spec h2 (ratL_ne _ _) n1 z1').mono fun v V4 l4 ⟨r4, hv, h4⟩ => ⟨r4, hv, (ref2_greatest_spec (h2.le l4) (ratL_ne _ _) n1 z1').mono fun v V5 l5 ⟨r5, hv, h5⟩ => ⟨r5, hv, ?_⟩⟩
   refine (ref2_tight_spec (h4.le l5) h5 (by omega) (by omega)).mono fun v V6 l6 hv => ⟨_, hv, ?_⟩
   replace h3 := h3.le (View.le_trans l4 (View.le_trans l5 l6))
   refine (ref2_greatest_spec h3 (ratL_ne _ _) n2 z2').mono fun v V7 l7 ⟨r7, hv, h7⟩ => ⟨r7, hv, (ref2_minus_spec h7).mono fun v V8 l8 ⟨r8, hv, h8⟩ => ⟨r8, hv, ?_⟩⟩
   refine (ref2_least_spec (h3.le (View.le_trans l7 l8)) (ratL_ne _ _) n2 z2').mono fun v V9 l9 ⟨r9, hv, h9⟩ => ⟨r9, hv, (ref2_minus_spec h9).mono fun v V10 l10 ⟨r10, hv, h10⟩ => ⟨r10, hv, ?_⟩⟩
   refine (ref2_tight_spec (h8.le (View.le_trans l9 l10)) h10 (by omega) (by omega)).mono fun v V11 _ hv => ⟨_, hv, ?_⟩
   rw [e1 _ (.inr rfl), e1 _ (.inl rfl), e2 _ (.inr rfl), e2 _ (.inl rfl)]
   unfold Bk.inv Bk.invE; rw [hc]; rfl
def Bk.div (b c : Bk) : Bk := if c.invE = 0 then b.mul c.inv else Bk.nil
theorem Box_Div_spec {V : View} {b c : Bk} (h : b.ok) (k : c.ok) : CallV Tryz.prog n_Box_Div #[b.v.val, c.v.val] V fun v _ => v = .tuple #[(Bk.div b c).v.val, .int .i64 c.invE] := by
 refine Box_Div_vc b.v c.v V _ ((Box_Inv_spec k).mono fun v V1 _ hv => ⟨_, _, hv, fun hc => ?_, fun hc => ?_⟩)
 · have hc : c.invE ≠ 0 := by simpa using hc
   unfold Bk.div; rw [if_neg hc]; rfl
 · have hc : c.invE = 0 := by simpa using hc
   refine (Box_Mul_spec h (Bk.inv_ok c)).mono fun v V2 _ hv => ⟨_, hv, ?_⟩
   unfold Bk.div; rw [if_pos hc, hc]
theorem ref2_Box_Div_spec {V : View} {b c : Bk} (h : b.ok) (k : c.ok) (p : c.proper) : CallV Tryz.prog n_ref2_Box_Div #[b.v.val, c.v.val] V fun v _ => v = .tuple #[(Bk.div b c).v.val, .int .i64 c.invE] := by
 refine ref2_Box_Div_vc b.v c.v V _ ((ref2_Box_Inv_spec k p).mono fun v V1 _ hv => ⟨_, _, hv, fun hc => ?_, fun hc => ?_⟩)
 · have hc : c.invE ≠ 0 := by simpa using hc
   unfold Bk.div; rw [if_neg hc]; rfl
 · have hc : c.invE = 0 := by simpa using hc
   refine (ref2_Box_Mul_spec h (Bk.inv_ok c)).mono fun v V2 _ hv => ⟨_, hv, ?_⟩
   unfold Bk.div; rw [if_pos hc, hc]
def Bk.side (b : Bk) : Int := if 0 < b.im.lo then 1 else if b.im.hi < 0 then -1 else 0
theorem Box_Side_spec {V : View} {b : Bk} (h : b.ok) : CallV Tryz.prog n_Box_Side #[b.v.val] V fun v _ => v = .int .i64 (Bk.side b) := by
 have a : (FloatKind.f64.format.order (wordK b.im.lo) 0 == some .gt) = decide (0 < b.im.lo) := gtK h.im.lo zero_in
 have c : (FloatKind.f64.format.order (wordK b.im.hi) 0 == some .lt) = decide (b.im.hi < 0) := ltK h.im.hi zero_in
 refine Box_Side_vc b.v V _ ⟨fun g => ?_, fun g => ⟨fun g2 => ?_, fun g2 => ?_⟩⟩
 · have g : 0 < b.im.lo := by have := a ▸ g; simpa using this
   unfold Bk.side; rw [if_pos g]
 · have g : ¬ 0 < b.im.lo := by have := a ▸ g; simpa using this
   have g2 : b.im.hi < 0 := by have := c ▸ g2; simpa using this
   unfold Bk.side; rw [if_neg g, if_pos g2]
 · have g : ¬ 0 < b.im.lo := by have := a ▸ g; simpa using this
   have g2 : ¬ b.im.hi < 0 := by have := c ▸ g2; simpa using this
   unfold Bk.side; rw [if_neg g, if_neg g2]
theorem ref2_Box_Side_spec {V : View} {b : Bk} (h : b.ok) : CallV Tryz.prog n_ref2_Box_Side #[b.v.val] V fun v _ => v = .int .i64 (Bk.side b) := by
 have a : (FloatKind.f64.format.order (wordK b.im.lo) 0 == some .gt) = decide (0 < b.im.lo) := gtK h.im.lo zero_in
 have c : (FloatKind.f64.format.order (wordK b.im.hi) 0 == some .lt) = decide (b.im.hi < 0) := ltK h.im.hi zero_in
 refine ref2_Box_Side_vc b.v V _ ⟨fun g => ?_, fun g => ⟨fun g2 => ?_, fun g2 => ?_⟩⟩
 · have g : 0 < b.im.lo := by have := a ▸ g; simpa using this
   unfold Bk.side; rw [if_pos g]
 · have g : ¬ 0 < b.im.lo := by have := a ▸ g; simpa using this
   have g2 : b.im.hi < 0 := by have := c ▸ g2; simpa using this
   unfold Bk.side; rw [if_neg g, if_pos g2]
 · have g : ¬ 0 < b.im.lo := by have := a ▸ g; simpa using this
   have g2 : ¬ b.im.hi < 0 := by have := c ▸ g2; simpa using this
   unfold Bk.side; rw [if_neg g, if_neg g2]
theorem BoxInverts_spec {V : View} {p q : SidesV} (h1 : p.u64) (h2 : q.u64) : CallV Tryz.prog n_law2_BoxInverts #[p.val, q.val] V fun v _ => v = .bool true := by
 refine law2_BoxInverts_vc p q V _ (awake_spec.mono fun v V1 _ hv => ⟨_, hv, fun h => absurd h (by decide), fun _ => ?_⟩)
 refine (Both_spec h1).mono fun v V2 _ ⟨b, kb, hb, pb, hv⟩ => ⟨_, _, _, hv, ?_⟩
 refine (Both_spec h2).mono fun v V3 _ ⟨c, kc, hc, pc, hv⟩ => ⟨_, _, _, hv, fun _ => rfl, fun g1 => ⟨fun _ => rfl, fun g2 => ?_⟩⟩
 have pb := pb (by simpa using g1)
 have pc := pc (by simpa using g2)
 have no : ∀ {P : Prop}, true = false → P := fun h => absurd h (by decide)
 refine (Box_Inv_spec hb).mono fun v V4 _ hv => ⟨_, _, hv, (ref2_Box_Inv_spec hb pb).mono fun v V5 _ hv => ⟨_, _, hv, ?_⟩⟩
 refine (Box_Div_spec hb hc).mono fun v V6 _ hv => ⟨_, _, hv, (ref2_Box_Div_spec hb hc pc).mono fun v V7 _ hv => ⟨_, _, hv, fun _ => ?_, fun h => absurd h (by simp)⟩⟩
 refine (Is_same _).mono fun v V8 _ hv => ⟨_, hv, fun _ => ⟨fun _ => ?_, fun h => absurd h (by simp)⟩, no⟩
 refine (Is_same _).mono fun v V9 _ hv => ⟨_, hv, fun _ => ?_, no⟩
 refine (Box_Clear_spec hb).mono fun v V10 _ hv => ⟨_, hv, (ref2_Box_Clear_spec hb).mono fun v V11 _ hv => ⟨_, hv, fun _ => ?_, fun h => absurd h (by unfold Bk.clear; simp)⟩⟩
 exact (Box_Side_spec hb).mono fun v V12 _ hv => ⟨_, hv, (ref2_Box_Side_spec hb).mono fun v V13 _ hv => ⟨_, hv, by simp⟩⟩
end Go.Proofs.YtkibfmnkkiakoaaGreat
