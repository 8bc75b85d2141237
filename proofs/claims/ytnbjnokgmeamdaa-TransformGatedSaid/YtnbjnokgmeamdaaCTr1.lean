/- What the small functions of the transform come to. -/
import Derived.Test.YtnbjnokgmeamdaaCNum1
import Derived.Test.YtnbjnokgmeamdaaFTr1
import Derived.Test.YtnbjnokgmeamdaaFStage
import Derived.Test.YtnbjnokgmeamdaaVList
namespace Go.Proofs.Ytnbjnokgmeamdaa
open Go Go.Vc Go.Proofs

def lenB (n : Nat) : Bool := [1, 2, 4, 8, 16, 32, 64].contains n
theorem lenB_eq : ∀ n ∈ List.range 65, 1 ≤ n → (IntKind.i64.wrap (BitVec.toNat ((BitVec.ofInt IntKind.i64.bits (n : Int)) &&& (BitVec.ofInt IntKind.i64.bits (IntKind.i64.wrap ((n : Int) - 1))))) == 0) = lenB n := by
  decide +kernel
theorem lenB_le {n : Nat} (h : lenB n = true) : 1 ≤ n ∧ n ≤ 64 := by
  simp [lenB] at h; omega

theorem transform_length_spec {V : View} {n : Int} (h0 : 0 ≤ n) : CallV Try.prog n_transform_length #[.int .i64 n] V fun v V' => v = .bool (lenB n.toNat) := by
  refine transform_length_vc n V _ ⟨fun h1 => ⟨fun h2 => ?_, fun h2 => ?_⟩, fun h1 => ⟨fun h => absurd h (by simp), fun _ => ?_⟩⟩
  · simp only [decide_eq_true_eq] at h1 h2
    have := lenB_eq n.toNat (by simp; omega) (by omega)
    rw [Int.toNat_of_nonneg h0] at this
    rw [this]
  · simp only [decide_eq_false_iff_not] at h2
    congr 1; symm
    rw [Bool.eq_false_iff]; intro e
    have := lenB_le e; omega
  · simp only [decide_eq_false_iff_not] at h1
    congr 1; symm
    rw [Bool.eq_false_iff]; intro e
    have := lenB_le e; omega

theorem transform_fits_spec {V : View} (p q : Sl) : CallV Try.prog n_transform_fits_num_Num_ #[p.v, q.v] V fun v V' => v = .bool (lenB q.len && decide (p.len = q.len)) := by
  refine transform_fits_num_Num__vc p q V _ ((transform_length_spec (Int.natCast_nonneg _)).mono fun v V1 l1 hv => ⟨_, hv, fun h => ?_, fun h => ?_⟩)
  · rw [Int.toNat_natCast] at h
    rw [h, Bool.true_and]; congr 1
    rw [Bool.eq_iff_iff]; simp; omega
  · rw [Int.toNat_natCast] at h
    rw [h, Bool.false_and]

/-- What a plain number stands for. -/
def ratQ (r : RatV) : Cq := if r.den = 0 then ⟨(r.re : Rat), (r.im : Rat)⟩ else ⟨(r.re : Rat) / (r.den : Rat), (r.im : Rat) / (r.den : Rat)⟩
def ratI (r : RatV) : Prop := (-9223372036854775808 ≤ r.re ∧ r.re ≤ 9223372036854775807) ∧ (-9223372036854775808 ≤ r.im ∧ r.im ≤ 9223372036854775807) ∧ (-9223372036854775808 ≤ r.den ∧ r.den ≤ 9223372036854775807)
def ratC (_ : View) (x : List Value) (r : RatV) : Prop := x = r.val.cells.toList
def RatsAt (V : View) (s : Sl) (rs : List RatV) : Prop := ListAt 3 ratC V s rs
theorem RatsAt.le {V V' : View} (hle : V.le V') {s : Sl} {rs : List RatV} (h : RatsAt V s rs) : RatsAt V' s rs := ListAt.le (P := ratC) (V := V) (V' := V') (fun _ _ h => h) hle h

theorem law1_Of_spec {V : View} {r : RatV} (h : ratI r) : CallV Try.prog n_law1_Of #[r.val] V fun v V' => ∃ x : NumV, v = x.val ∧ NumAt V' x (ratQ r) := by
  obtain ⟨⟨a1, a2⟩, ⟨b1, b2⟩, ⟨c1, c2⟩⟩ := h
  refine law1_Of_vc r V _ ⟨fun h0 => ?_, fun h0 => ?_⟩
  · have h0 : r.den = 0 := by simpa using h0
    refine (num_New_spec a1 a2 b1 b2 (by omega) (by omega) (by omega)).mono fun v V1 _ ⟨x, hv, hx⟩ => ⟨x, 0, hv, x, rfl, ?_⟩
    have e : ratQ r = ⟨(r.re : Rat) / ((1 : Int) : Rat), (r.im : Rat) / ((1 : Int) : Rat)⟩ := by
      unfold ratQ; rw [if_pos h0]; simp only [Rat.div_def, Cq.mk.injEq]; constructor <;> grind
    rw [e]; exact hx
  · have h0 : r.den ≠ 0 := by simpa using h0
    refine (num_New_spec a1 a2 b1 b2 c1 c2 h0).mono fun v V1 _ ⟨x, hv, hx⟩ => ⟨x, 0, hv, x, rfl, ?_⟩
    unfold ratQ; rw [if_neg h0]; exact hx

theorem law1_List_spec {V : View} {s : Sl} {rs : List RatV} (h : RatsAt V s rs) (hi : ∀ r ∈ rs, ratI r) (hn : rs.length ≤ 2 ^ 32) :
    CallV Try.prog n_law1_List #[s.v] V fun v V' => ∃ r : Sl, v = r.v ∧ NumsAt V' r (rs.map ratQ) := by
  have hl := h.len
  let f : Nat → Cq := fun i => nth (rs.map ratQ) i
  refine law1_List_vc s V _ (fun _ x V' => 0 ≤ x.t11 ∧ x.t11 ≤ s.len ∧ NumsIn V' x.o8 (filled s.len x.t11.toNat f)) (fun _ x _ => s.len - x.t11.toNat)
    ⟨⟨by omega, by omega, by omega, by omega⟩, ⟨by simp, by simp, ?_⟩, ?_⟩
  · simp only [Int.toNat_zero, filled_zero, Int.toNat_natCast]; exact NumsIn.zeros _ _
  rintro ⟨t, o⟩ V1 l1 ⟨h0, h1, ho⟩
  simp only at h0 h1 ho ⊢
  refine ⟨fun hlt => ?_, fun hge => ?_⟩
  · simp only [decide_eq_true_eq] at hlt
    have hk : t.toNat < rs.length := by omega
    obtain ⟨hb, x, hx, _, hh, hs⟩ := (h.le l1).get h0 (z := rs[t.toNat]) (by simp [hk])
    refine ⟨hb, rs[t.toNat], hx ▸ hh, hs, (law1_Of_spec (hi _ (List.getElem_mem _))).mono fun v V2 l2 ⟨r, hv, hr⟩ => ⟨r, hv, ⟨h0, by simpa using hlt⟩, ?_, ?_⟩⟩
    · exact Cells.room ho (by rw [filled_length (by omega)]; omega)
    · have e : IntKind.i64.wrap (t + 1) = t + 1 := i64w (by omega) (by omega)
      have e2 : (t + 1).toNat = t.toNat + 1 := by omega
      have ef : f t.toNat = ratQ rs[t.toNat] := by simp [f, nth, List.getD, hk]
      refine ⟨⟨by rw [e]; omega, by rw [e]; omega, ?_⟩, by simp only [e, e2]; omega⟩
      simp only [e, e2]
      rw [← filled_set (by omega), ef]
      exact (ho.le l2).set (by rw [filled_length (by omega)]; omega) hr
  · simp only [decide_eq_false_iff_not] at hge
    intro b V3 l3 hb
    have e : t.toNat = s.len := by omega
    rw [e, filled_all] at ho
    have e2 : (List.range s.len).map f = rs.map ratQ := by
      have := list_of_nth (rs.map ratQ)
      rw [List.length_map] at this
      rw [hl]; exact this
    rw [e2] at ho
    exact ⟨_, rfl, ListAt.of_made hb (ho.le l3) (by simp [hl])⟩

theorem oneCell_num (r : NumV) : ∀ v ∈ [Value.bool r.re.neg, r.re.mag.v, Value.bool r.im.neg, r.im.mag.v, r.under.v], Value.oneCell' v = true := by
  intro v hv
  simp only [List.mem_cons, List.not_mem_nil, or_false] at hv
  rcases hv with rfl | rfl | rfl | rfl | rfl <;> rfl

theorem has_block {V : View} {b : Nat} {l : List Value} (h : V b = some l.toArray) : V.has (some (Addr.mk b 0 none)) l := by
  intro j v hj
  rw [load_block h]; simpa using hj

theorem transform_every_spec {V : View} {s : Sl} {zs : List Cq} {a : Int} (h : NumsAt V s zs) (ha : 0 ≤ a) (ha1 : a ≤ 1) (hn : zs.length ≤ 2 ^ 32) (hn1 : 1 ≤ zs.length) :
    CallV Try.prog n_transform_every_num_Num_ #[s.v, .int .i64 a] V fun v V' => ∃ r : Sl, v = r.v ∧ NumsAt V' r (everyF zs a.toNat) := by
  have hl := h.len
  refine transform_every_num_Num__vc s a V _ (fun _ x V' => ∃ l, x.t6 = a + 2 * x.t5l ∧ 2 * x.t5l + a.toNat ≤ zs.length + 1 ∧ LstOk 5 x.t5l x.t5c x.o5 l ∧ NumsIn V' l ((List.range x.t5l).map fun k => nth zs (a.toNat + 2 * k)))
    (fun _ x _ => zs.length + 2 - 2 * x.t5l) ⟨⟨[], by simp, by simp; omega, LstOk.nil, rfl⟩, ?_⟩
  rintro ⟨n, c, t, o⟩ V1 l1 ⟨l, ht, hm, hlo, hin⟩
  simp only at ht hm hlo hin ⊢
  refine ⟨fun hlt => ?_, fun hge => ?_⟩
  · simp only [decide_eq_true_eq] at hlt
    obtain ⟨hb, x, hx, hs, hnx⟩ := (h.le l1).get (t := t) (by omega) (by omega)
    refine ⟨hb, x, hx, hs, fun b V2 l2 hf hV2 => ?_⟩
    refine ⟨l, _, hlo, has_block (l := [.bool x.re.neg, x.re.mag.v, .bool x.im.neg, x.im.mag.v, x.under.v]) hV2, rfl, oneCell_num x, ?_, ?_, fun c1 l3 hl3 => ?_⟩
    · simp only [maxLen]; omega
    · omega
    · have e : IntKind.i64.wrap (t + 2) = t + 2 := i64w (by omega) (by omega)
      refine ⟨⟨_, by rw [e]; simp; omega, by omega, hl3, ?_⟩, by omega⟩
      rw [← push_range]
      have e3 : a.toNat + 2 * n = t.toNat := by omega
      rw [e3]
      exact (hin.le l2).push (hnx.le l2)
  · simp only [decide_eq_false_iff_not] at hge
    intro b V3 l3 hb
    refine ⟨_, rfl, ?_⟩
    have e : n = (zs.length + 1 - a.toNat) / 2 := by omega
    unfold everyF
    rw [← e]
    exact ListAt.of_lst hlo hb (hin.le l3) (by simp)

theorem halves_nth {h i : Nat} (hi : i < 2 * h) (a b : Nat → Cq) : nth (halves h h a b) i = if i < h then a i else b (i - h) := by
  unfold halves
  rw [nth_map hi]
  split
  · rfl
  · rw [if_pos (by omega)]

theorem transform_stage_owned : ∀ (m : Nat) {V : View} {p w : Sl} {zs ws : List Cq} (S T : Nat), m ≤ 6 → zs.length = 2 ^ m → ws.length = 2 ^ m → NumsAt V p zs → NumsAt V w ws →
    (∀ i, i < 2 ^ m → (nth zs i).sz ≤ S) → (∀ i, i < 2 ^ m → (nth ws i).sz ≤ T) → 2 ^ m * (S + T + 2) ≤ 2 ^ 39 →
    CallO Try.prog n_transform_stage_num_Num_ #[p.v, w.v] 31 V fun n cap l rest V' => n = (stageF m zs ws).length ∧ cap = n ∧ rest = [] ∧ NumsIn V' l (stageF m zs ws)
  | m, V, p, w, zs, ws, S, T, hm, hz, hw, hp, hq, hS, hT, hsz => by
    have hpl := hp.len
    have hwl := hq.len
    have hpow : 2 ^ m ≤ 64 := Nat.pow_le_pow_right (n := 2) (by omega) hm
    have hpos : 0 < 2 ^ m := Nat.pow_pos (by omega)
    rw [stageF_length]
    refine transform_stage_num_Num__vc p w V _ (fun c x V' => ∃ m' zs' ws', m = m' + 1 ∧ zs' = stageF m' (everyF zs 0) (everyF ws 0) ∧ ws' = stageF m' (everyF zs 1) (everyF ws 0) ∧
        NumsAt V' c.t8 zs' ∧ NumsAt V' c.t9 ws' ∧ 0 ≤ x.t36 ∧ x.t36 ≤ (2 ^ m' : Nat) ∧
        NumsIn V' x.o15 (halves (2 ^ m') x.t36.toNat (fun i => nth zs' i + nth ws' i * nth ws i) (fun i => nth zs' i - nth ws' i * nth ws i)))
      (fun _ x _ => 2 ^ m - x.t36.toNat) ⟨⟨by omega, by omega, by omega, by omega⟩, fun h1 => ?_, fun h1 => ?_⟩
    · have h1 : p.len = 1 := by have : (p.len : Int) = 1 := (by simpa using h1); omega
      have hm0 : m = 0 := by
        rcases Nat.eq_zero_or_pos m with h | h
        · exact h
        · have : 2 ^ 1 ≤ 2 ^ m := Nat.pow_le_pow_right (by omega) h
          omega
      subst hm0
      obtain ⟨hb, x, hx, hs, hnx⟩ := hp.get (t := 0) (by omega) (by simp [hz])
      have hset := (NumsIn.zeros V 1).set (i := 0) (by simp) hnx
      refine ⟨hb, x, hx, hs, ⟨by omega, by omega⟩, ?_, ?_, ?_⟩
      · simp [h1]
      · refine ⟨by simp [h1], ?_⟩
        intro e
        have h5 := Cells.length hset
        simp only [h1] at e
        have h6 : (0 : Nat) = 5 := (congrArg List.length e).symm.trans h5
        omega
      · refine ⟨by simp [h1], rfl, rfl, ?_⟩
        simp only [h1]
        exact hset
    · have h1 : p.len ≠ 1 := by intro e; simp [e] at h1
      obtain ⟨m', rfl⟩ : ∃ m', m = m' + 1 := ⟨m - 1, by rcases Nat.eq_zero_or_pos m with h | h; · subst h; simp at hz; omega
                                                        · omega⟩
      have hp2 : 2 ^ (m' + 1) = 2 * 2 ^ m' := by rw [Nat.pow_succ]; omega
      have hmul : 2 ^ (m' + 1) * (S + T + 2) = 2 * (2 ^ m' * (S + T + 2)) := by rw [hp2, Nat.mul_assoc]
      have bz : ∀ a, a ≤ 1 → ∀ i, i < 2 ^ m' → (nth (everyF zs a) i).sz ≤ S := by
        intro a ha i hi; rw [everyF_nth (by omega)]; exact hS _ (by omega)
      have bw : ∀ i, i < 2 ^ m' → (nth (everyF ws 0) i).sz ≤ T := by
        intro i hi; rw [everyF_nth (by omega)]; exact hT _ (by omega)
      refine (transform_every_spec hq (Int.le_refl 0) (by omega) (by omega) (by omega)).mono fun v V1 l1 ⟨r1, hv, hr1⟩ => ⟨r1, hv, ?_⟩
      refine (transform_every_spec (hp.le l1) (Int.le_refl 0) (by omega) (by omega) (by omega)).mono fun v V2 l2 ⟨r2, hv, hr2⟩ => ⟨r2, hv, ?_⟩
      have ne : ∀ zs ws, stageF m' zs ws ≠ [] := by
        intro zs ws e
        have := stageF_length m' zs ws
        rw [e] at this; simp at this
        have : 0 < 2 ^ m' := Nat.pow_pos (by omega)
        omega
      refine (CallO.nums (ne _ _) (transform_stage_owned m' S T (by omega) (by simp [everyF_length]; omega) (by simp [everyF_length]; omega) hr2 (hr1.le l2) (bz 0 (by omega)) bw (by omega))).mono fun v V3 l3 ⟨r3, hv, hr3⟩ => ⟨r3, hv, ?_⟩
      refine (transform_every_spec (hp.le (View.le_trans l1 (View.le_trans l2 l3))) (a := 1) (by omega) (by omega) (by omega) (by omega)).mono fun v V4 l4 ⟨r4, hv, hr4⟩ => ⟨r4, hv, ?_⟩
      refine (CallO.nums (ne _ _) (transform_stage_owned m' S T (by omega) (by simp [everyF_length]; omega) (by simp [everyF_length]; omega) hr4 (hr1.le (View.le_trans l2 (View.le_trans l3 l4))) (bz 1 (by omega)) bw (by omega))).mono fun v V5 l5 ⟨r5, hv, hr5⟩ => ⟨r5, hv, ?_⟩
      have le5 : View.le V V5 := View.le_trans l1 (View.le_trans l2 (View.le_trans l3 (View.le_trans l4 l5)))
      have hdiv : IntKind.i64.wrap (Int.tdiv (p.len : Int) 2) = ((2 ^ m' : Nat) : Int) := by
        have e : Int.tdiv (p.len : Int) 2 = ((2 ^ m' : Nat) : Int) := by
          rw [Int.tdiv_eq_ediv_of_nonneg (by omega)]; omega
        rw [e]; exact i64w (by omega) (by omega)
      rw [hdiv]
      refine ⟨⟨m', _, _, rfl, rfl, rfl, hr3.le (View.le_trans l4 l5), hr5, Int.le_refl 0, Int.natCast_nonneg _, ?_⟩, ?_⟩
      · simp only [Int.toNat_zero, halves_zero, Int.toNat_natCast, hpl, hz, hp2]
        exact NumsIn.zeros _ _
      rintro ⟨t, o⟩ V6 l6 ⟨m2, zs', ws', em, rfl, rfl, h8, h9, h0, h1', hin⟩
      have em : m' = m2 := by omega
      subst em
      simp only at h8 h9 h0 h1' hin ⊢
      have lz := stageF_length m' (everyF zs 0) (everyF ws 0)
      have lw := stageF_length m' (everyF zs 1) (everyF ws 0)
      have l8 := h8.len
      have l9 := h9.len
      have lo : ∀ k a b, (halves (2 ^ m') k a b).length = 2 * 2 ^ m' := by intro k a b; simp [halves]
      refine ⟨fun hlt => ?_, fun hge => ?_⟩
      · simp only [decide_eq_true_eq] at hlt
        have hk : t.toNat < 2 ^ m' := by omega
        obtain ⟨hb4, x4, hx4, hs4, hn4⟩ := h9.get h0 (by omega)
        obtain ⟨hb5, x5, hx5, hs5, hn5⟩ := (hq.le (View.le_trans le5 l6)).get h0 (by omega)
        have sE := stageF_sz m' (everyF zs 0) (everyF ws 0) S T (by simp [everyF_length]; omega) (by simp [everyF_length]; omega) (bz 0 (by omega)) bw t.toNat hk
        have sO := stageF_sz m' (everyF zs 1) (everyF ws 0) S T (by simp [everyF_length]; omega) (by simp [everyF_length]; omega) (bz 1 (by omega)) bw t.toNat hk
        have sW := hT t.toNat (by omega)
        have hm2 : S + T + 2 ≤ 2 ^ m' * (S + T + 2) := Nat.le_mul_of_pos_left _ (Nat.pow_pos (by omega))
        have sU := Cq.sz_mul (nth (stageF m' (everyF zs 1) (everyF ws 0)) t.toNat) (nth ws t.toNat)
        refine ⟨hb4, x4, hx4, hs4, hb5, x5, hx5, hs5, (Num_Mul_spec hn4 hn5 (by omega) (by omega)).mono fun v V7 l7 ⟨r6, hv, hr6⟩ => ⟨r6, hv, ?_⟩⟩
        obtain ⟨hb6, x6, hx6, hs6, hn6⟩ := (h8.le l7).get h0 (by omega)
        refine ⟨hb6, x6, hx6, hs6, hb6, x6, hx6, hs6, (Num_Add_spec hn6 hr6 (by omega) (by omega)).mono fun v V8 l8' ⟨r7, hv, hr7⟩ => ⟨r7, hv, ?_⟩⟩
        refine (Num_Sub_spec (hn6.le l8') (hr6.le l8') (by omega) (by omega)).mono fun v V9 l9' ⟨r8, hv, hr8⟩ => ⟨r8, hv, ⟨h0, ?_⟩, ?_, ?_⟩
        · omega
        · exact Cells.room hin (by rw [lo]; omega)
        have ek : IntKind.i64.wrap (t + ((2 ^ m' : Nat) : Int)) = t + ((2 ^ m' : Nat) : Int) := i64w (by omega) (by omega)
        have ek2 : Int.toNat (t + ((2 ^ m' : Nat) : Int)) = t.toNat + 2 ^ m' := by omega
        have et : IntKind.i64.wrap (t + 1) = t + 1 := i64w (by omega) (by omega)
        have et2 : (t + 1).toNat = t.toNat + 1 := by omega
        rw [ek, ek2]
        have in9 := hin.le (View.le_trans l7 (View.le_trans l8' l9'))
        have s1 := in9.set (i := t.toNat) (by rw [lo]; omega) (hr7.le l9')
        have s2 := s1.set (i := t.toNat + 2 ^ m') (by rw [List.length_set, lo]; omega) hr8
        refine ⟨⟨by omega, by omega⟩, ?_, ⟨m', _, _, rfl, rfl, rfl, h8.le (View.le_trans l7 (View.le_trans l8' l9')), h9.le (View.le_trans l7 (View.le_trans l8' l9')), by rw [et]; omega, by rw [et]; omega, ?_⟩, by simp only [et, et2]; omega⟩
        · exact Cells.room s1 (by rw [List.length_set, lo]; omega)
        · simp only [et, et2]
          rw [← halves_set hk]
          exact s2
      · simp only [decide_eq_false_iff_not] at hge
        have e : t.toNat = 2 ^ m' := by omega
        rw [e] at hin
        have e2 : halves (2 ^ m') (2 ^ m') (fun i => nth (stageF m' (everyF zs 0) (everyF ws 0)) i + nth (stageF m' (everyF zs 1) (everyF ws 0)) i * nth ws i)
            (fun i => nth (stageF m' (everyF zs 0) (everyF ws 0)) i - nth (stageF m' (everyF zs 1) (everyF ws 0)) i * nth ws i) = stageF (m' + 1) zs ws := by
          have h2 := list_of_nth (stageF (m' + 1) zs ws)
          rw [stageF_length] at h2
          rw [← h2]
          unfold halves
          rw [← hp2]
          apply List.map_congr_left
          intro i hi
          have hi : i < 2 ^ (m' + 1) := by simpa using hi
          rw [stageF, nth_map hi]
          split
          · rfl
          · rw [if_pos (by omega)]
        rw [e2] at hin
        refine ⟨⟨by omega, ?_⟩, by omega, by simp, by simp, hin⟩
        intro eo
        subst eo
        have := Cells.length hin
        rw [stageF_length] at this
        simp at this; omega
