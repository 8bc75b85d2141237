/- What the transform by its definition, its inverses and the helpers of the laws come to. -/
import Derived.Test.YtnbjnokgmeamdaaCTr2
import Derived.Test.YtnbjnokgmeamdaaFFor
namespace Go.Proofs.Ytnbjnokgmeamdaa
open Go Go.Vc Go.Proofs

/-- A number of small parts. -/
def smallR (r : RatV) : RatV := ⟨Int.tmod r.re 21, Int.tmod r.im 21, ((Int.tmod r.den 6).natAbs + 1 : Nat)⟩
def tame (r : RatV) : Prop := (-20 ≤ r.re ∧ r.re ≤ 20) ∧ (-20 ≤ r.im ∧ r.im ≤ 20) ∧ 0 ≤ r.den ∧ r.den ≤ 6
theorem tame.ok {r : RatV} (h : tame r) : ratI r := by
  obtain ⟨⟨a, b⟩, ⟨c, d⟩, e, f⟩ := h
  exact ⟨⟨by omega, by omega⟩, ⟨by omega, by omega⟩, ⟨by omega, by omega⟩⟩
theorem tmod_range (a : Int) {b : Int} (hb : 0 < b) : -b < Int.tmod a b ∧ Int.tmod a b < b := by
  have h1 := Int.tmod_lt_of_pos a hb
  have h2 := Int.tmod_lt_of_pos (-a) hb
  rw [Int.neg_tmod] at h2
  omega
theorem smallR_tame (r : RatV) : tame (smallR r) := by
  have h1 := tmod_range r.re (b := 21) (by omega)
  have h2 := tmod_range r.im (b := 21) (by omega)
  have h3 := tmod_range r.den (b := 6) (by omega)
  refine ⟨⟨?_, ?_⟩, ⟨?_, ?_⟩, ?_, ?_⟩ <;> simp only [smallR] <;> omega
theorem tame_zero : tame ⟨0, 0, 0⟩ := ⟨⟨by decide, by decide⟩, ⟨by decide, by decide⟩, by decide, by decide⟩
theorem tame_sz {r : RatV} (h : tame r) : (ratQ r).sz ≤ 5 := by
  obtain ⟨⟨a, b⟩, ⟨c, d⟩, e, f⟩ := h
  have key : Rep (ratQ r) r.re r.im (if r.den = 0 then 1 else r.den.toNat) := by
    unfold ratQ
    split
    · refine ⟨by omega, ?_, ?_⟩ <;> simp only [] <;> rw [Rat.div_def] <;> simp <;> grind
    · have e : ((r.den.toNat : Nat) : Rat) = (r.den : Rat) := by
        have : ((r.den.toNat : Nat) : Int) = r.den := by omega
        rw [← this]; rfl
      exact ⟨by omega, by simp only [e], by simp only [e]⟩
  refine key.sz ?_ ?_ ?_
  · exact bl_le_of_lt (by omega)
  · exact bl_le_of_lt (by omega)
  · exact bl_le_of_lt (by split <;> omega)

theorem small_spec {V : View} (r : RatV) : CallV Try.prog n_waveportlaw07_small #[r.val] V fun v V' => v = (smallR r).val := by
  have h3 := tmod_range r.den (b := 6) (by omega)
  refine waveportlaw07_small_vc r V _ ⟨fun h => ?_, fun h => ?_⟩
  · simp only [decide_eq_true_eq] at h
    rw [i64w (n := 0 - Int.tmod r.den 6) (by omega) (by omega), i64w (by omega) (by omega)]
    have e : 0 - Int.tmod r.den 6 + 1 = (((Int.tmod r.den 6).natAbs + 1 : Nat) : Int) := by omega
    rw [e]; rfl
  · simp only [decide_eq_false_iff_not] at h
    rw [i64w (by omega) (by omega)]
    have e : Int.tmod r.den 6 + 1 = (((Int.tmod r.den 6).natAbs + 1 : Nat) : Int) := by omega
    rw [e]; rfl

def rnth (rs : List RatV) (i : Nat) : RatV := rs.getD i ⟨0, 0, 0⟩
def repeatedR (rs : List RatV) (n : Nat) : List RatV := (List.range n).map fun i => if rs = [] then ⟨0, 0, 0⟩ else smallR (rnth rs (i % rs.length))
theorem repeatedR_tame (rs : List RatV) (n : Nat) : ∀ r ∈ repeatedR rs n, tame r := by
  intro r hr
  obtain ⟨i, _, rfl⟩ := List.mem_map.1 hr
  split
  · exact tame_zero
  · exact smallR_tame _
def rfilled (n k : Nat) (f : Nat → RatV) : List RatV := (List.range k).map f ++ List.replicate (n - k) ⟨0, 0, 0⟩
theorem rfilled_length {n k : Nat} (h : k ≤ n) (f : Nat → RatV) : (rfilled n k f).length = n := by simp [rfilled]; omega
theorem rfilled_set {n k : Nat} (h : k < n) (f : Nat → RatV) : (rfilled n k f).set k (f k) = rfilled n (k + 1) f := by
  unfold rfilled
  rw [List.set_append_right _ _ (by simp)]
  simp only [List.length_map, List.length_range, Nat.sub_self]
  have : n - k = (n - (k + 1)) + 1 := by omega
  rw [this, List.replicate_succ, List.set_cons_zero, List.range_succ, List.map_append]; simp

theorem repeated_spec {V : View} {s : Sl} {rs : List RatV} {n : Nat} (h : RatsAt V s rs) (hr : rs.length < 2 ^ 64) (hn : n ≤ 2 ^ 32) :
    CallV Try.prog n_waveportlaw07_repeated #[s.v, .int .i64 (n : Int)] V fun v V' => ∃ r : Sl, v = r.v ∧ RatsAt V' r (repeatedR rs n) := by
  have hl := h.len
  let f : Nat → RatV := fun i => if rs = [] then ⟨0, 0, 0⟩ else smallR (rnth rs (i % rs.length))
  refine waveportlaw07_repeated_vc s (n : Int) V _ (fun _ x V' => 0 ≤ x.t11 ∧ x.t11 ≤ n ∧ Cells 3 ratC V' x.o8 (rfilled n x.t11.toNat f)) (fun _ x _ => n - x.t11.toNat) ⟨⟨by omega, by omega, by omega, by omega⟩, ⟨Int.le_refl 0, Int.natCast_nonneg _, ?_⟩, ?_⟩
  · rw [Int.toNat_natCast]
    show Cells 3 ratC V _ (rfilled n 0 f)
    have e : rfilled n 0 f = List.replicate n ⟨0, 0, 0⟩ := by simp [rfilled]
    rw [e]
    exact Cells.replicate rfl (ratC_of V 0 0 0) n
  rintro ⟨t, o⟩ V1 l1 ⟨h0, h1, hin⟩
  dsimp only at h0 h1 hin ⊢
  rw [Int.toNat_natCast]
  refine ⟨fun hlt => ?_, fun hge => ?_⟩
  · simp only [decide_eq_true_eq] at hlt
    have hkn : t.toNat < n := by omega
    have e1 : IntKind.i64.wrap (t + 1) = t + 1 := i64w (by omega) (by omega)
    have e2 : (t + 1).toNat = t.toNat + 1 := by omega
    rw [e1]
    refine ⟨fun hp => ?_, fun hz => ?_⟩
    · simp only [gt_iff_lt, decide_eq_true_eq] at hp
      have hm : Int.tmod t (s.len : Int) = ((t.toNat % rs.length : Nat) : Int) := by
        rw [Int.tmod_eq_emod_of_nonneg h0, hl]
        conv => lhs; rw [← Int.toNat_of_nonneg h0]
        rfl
      have hmlt : t.toNat % rs.length < rs.length := Nat.mod_lt _ (by omega)
      rw [hm]
      obtain ⟨hb, x, hx, _, hh, hs⟩ := ListAt.get (h.le l1) (t := ((t.toNat % rs.length : Nat) : Int)) (Int.natCast_nonneg _) (z := rnth rs (t.toNat % rs.length)) (by rw [Int.toNat_natCast]; simp [rnth, List.getD, hmlt])
      refine ⟨by omega, hb, rnth rs (t.toNat % rs.length), hx ▸ hh, hs, (small_spec _).mono fun v V2 l2 hv => ⟨_, hv, ⟨h0, hlt⟩, Cells.room hin (by rw [rfilled_length (by omega)]; omega), ⟨by omega, by omega, ?_⟩, by omega⟩⟩
      rw [e2, ← rfilled_set hkn]
      have ef : f t.toNat = smallR (rnth rs (t.toNat % rs.length)) := by
        simp only [f]; rw [if_neg (by intro e; subst e; simp at hl; omega)]
      rw [ef]
      exact Cells.set0 (Cells.imp (P := ratC) (V := V1) (P' := ratC) (V' := V2) (fun _ _ h => h) hin) (by rw [rfilled_length (by omega)]; omega) rfl (ratC_of V2 _ _ _)
    · simp only [gt_iff_lt, decide_eq_false_iff_not] at hz
      refine ⟨⟨by omega, by omega, ?_⟩, by omega⟩
      have he : rs = [] := by apply List.eq_nil_of_length_eq_zero; omega
      rw [e2, ← rfilled_set hkn]
      have ef : f t.toNat = ⟨0, 0, 0⟩ := by simp only [f]; rw [if_pos he]
      rw [ef]
      have : (rfilled n t.toNat f).set t.toNat ⟨0, 0, 0⟩ = rfilled n t.toNat f := by
        apply List.ext_getElem (by simp)
        intro i g1 g2
        rw [List.getElem_set]
        split
        · rename_i e; subst e
          simp only [rfilled]
          rw [List.getElem_append_right (by simp)]; simp
        · rfl
      rw [this]; exact hin
  · simp only [decide_eq_false_iff_not] at hge
    intro b V3 l3 hb
    have e : t.toNat = n := by omega
    rw [e] at hin
    have e2 : rfilled n n f = repeatedR rs n := by simp [rfilled, repeatedR, f]
    rw [e2] at hin
    exact ⟨_, rfl, ListAt.of_made hb (Cells.imp (P := ratC) (V := V1) (P' := ratC) (V' := V3) (fun _ _ h => h) hin) (by simp [repeatedR])⟩

/-- The numbers that a law is tried at. -/
def exactQ (rs : List RatV) (n : Nat) : List Cq := (repeatedR rs n).map ratQ
theorem exactQ_length (rs : List RatV) (n : Nat) : (exactQ rs n).length = n := by simp [exactQ, repeatedR]
theorem exactQ_sz (rs : List RatV) (n : Nat) : ∀ i, i < n → (nth (exactQ rs n) i).sz ≤ 5 := by
  intro i hi
  have h : nth (exactQ rs n) i ∈ exactQ rs n := by
    have hl := exactQ_length rs n
    have : nth (exactQ rs n) i = (exactQ rs n)[i] := by simp [nth, List.getD, hl, hi]
    rw [this]; exact List.getElem_mem _
  obtain ⟨r, hr, e⟩ := List.mem_map.1 h
  rw [← e]; exact tame_sz (repeatedR_tame rs n r hr)
def sizeN (p : Int) : Nat := 2 ^ (Int.tmod p 3).toNat
theorem sizeN_cases {p : Int} (h : 0 ≤ p) : sizeN p = 1 ∨ sizeN p = 2 ∨ sizeN p = 4 := by
  have : Int.tmod p 3 = 0 ∨ Int.tmod p 3 = 1 ∨ Int.tmod p 3 = 2 := by
    rw [Int.tmod_eq_emod_of_nonneg h]; omega
  unfold sizeN
  rcases this with e | e | e <;> rw [e] <;> simp
theorem shift_one {p : Int} (h : 0 ≤ p) : IntKind.i64.wrap (1 * 2 ^ (min (Int.toNat (Int.tmod p 3)) (IntKind.bits .i64))) = ((sizeN p : Nat) : Int) := by
  have : Int.tmod p 3 = 0 ∨ Int.tmod p 3 = 1 ∨ Int.tmod p 3 = 2 := by
    rw [Int.tmod_eq_emod_of_nonneg h]; omega
  unfold sizeN
  rcases this with e | e | e <;> rw [e] <;> decide
theorem exact_spec {V : View} {s : Sl} {rs : List RatV} {p : Int} (h : RatsAt V s rs) (hr : rs.length < 2 ^ 64) (hp : 0 ≤ p) :
    CallV Try.prog n_waveportlaw07_exact #[s.v, .int .u8 p] V fun v V' => ∃ x w : Sl, v = .tuple #[x.v, w.v] ∧ NumsAt V' x (exactQ rs (sizeN p)) ∧ NumsAt V' w (rootsQ (sizeN p)) := by
  have hc := sizeN_cases hp
  have hm : 0 ≤ Int.tmod p 3 := by rw [Int.tmod_eq_emod_of_nonneg hp]; omega
  have hle : sizeN p ≤ 2 ^ 32 := by omega
  refine waveportlaw07_exact_vc s p V _ ⟨hm, ?_⟩
  rw [shift_one hp]
  refine (transform_Exact_spec (n := sizeN p) hc).mono fun v V1 l1 ⟨w, hv, hw⟩ => ⟨w, 0, hv, ?_⟩
  refine (repeated_spec (h.le l1) hr hle).mono fun v V2 l2 ⟨r, hv, hrr⟩ => ⟨r, hv, ?_⟩
  refine (law1_List_spec hrr (fun r hr => (repeatedR_tame rs _ r hr).ok) (by simp [repeatedR]; omega)).mono fun v V3 l3 ⟨x, hv, hx⟩ => ⟨x, hv, x, w, rfl, hx, hw.le (View.le_trans l2 l3)⟩

theorem conjugates_spec {V : View} {s : Sl} {zs : List Cq} (h : NumsAt V s zs) (hn : zs.length ≤ 2 ^ 32) :
    CallV Try.prog n_transform_conjugates_num_Num_ #[s.v] V fun v V' => ∃ r : Sl, v = r.v ∧ NumsAt V' r (conjF zs) := by
  have hl := h.len
  refine transform_conjugates_num_Num__vc s V _ (fun _ x V' => 0 ≤ x.t10 ∧ x.t10 ≤ s.len ∧ NumsIn V' x.o7 (filled s.len x.t10.toNat fun i => (nth zs i).conj)) (fun _ x _ => s.len - x.t10.toNat)
    ⟨⟨by omega, by omega, by omega, by omega⟩, ⟨Int.le_refl 0, Int.natCast_nonneg _, ?_⟩, ?_⟩
  · rw [Int.toNat_natCast]
    show NumsIn V _ (filled s.len 0 _)
    rw [filled_zero]; exact NumsIn.zeros _ _
  rintro ⟨t, o⟩ V1 l1 ⟨h0, h1, ho⟩
  dsimp only at h0 h1 ho ⊢
  rw [Int.toNat_natCast]
  refine ⟨fun hlt => ?_, fun hge => ?_⟩
  · simp only [decide_eq_true_eq] at hlt
    obtain ⟨hb, x, hx, hs, hnx⟩ := (h.le l1).get h0 (by omega)
    refine ⟨hb, x, hx, hs, (Num_Conj_spec hnx).mono fun v V2 l2 ⟨r, hv, hr⟩ => ⟨r, hv, ⟨h0, hlt⟩, Cells.room ho (by rw [filled_length (by omega)]; omega), ?_⟩⟩
    have e : IntKind.i64.wrap (t + 1) = t + 1 := i64w (by omega) (by omega)
    have e2 : (t + 1).toNat = t.toNat + 1 := by omega
    rw [e]
    refine ⟨⟨by omega, by omega, ?_⟩, by omega⟩
    rw [e2, ← filled_set (by omega)]
    exact (ho.le l2).set (by rw [filled_length (by omega)]; omega) hr
  · simp only [decide_eq_false_iff_not] at hge
    intro b V3 l3 hb
    have e : t.toNat = s.len := by omega
    rw [e, filled_all] at ho
    refine ⟨_, rfl, ListAt.of_made (zs := conjF zs) hb ?_ (by simp [conjF, hl])⟩
    unfold conjF
    rw [← hl]; exact ho.le l3

theorem of_spec {V : View} {p q : Int} (p0 : -9223372036854775808 ≤ p) (p1 : p ≤ 9223372036854775807) (q0 : -9223372036854775808 ≤ q) (q1 : q ≤ 9223372036854775807) (hq : q ≠ 0) :
    CallV Try.prog n_transform_of_num_Num_ #[.int .i64 p, .int .i64 q] V fun v V' => ∃ r : NumV, v = r.val ∧ NumAt V' r ⟨(p : Rat) / (q : Rat), ((0 : Int) : Rat) / (q : Rat)⟩ := by
  refine transform_of_num_Num__vc p q V _ ((num_New_spec p0 p1 (by omega) (by omega) q0 q1 hq).mono fun v V1 l1 ⟨r, hv, hr⟩ => ⟨r, 0, hv, ?_⟩)
  exact (Num_Of_spec hr).mono fun v V2 l2 ⟨r3, hv, h3⟩ => ⟨r3, hv, r3, rfl, h3⟩

theorem shares_spec {V : View} {l : List Value} {zs : List Cq} {c : Nat} (h : NumsIn V l zs) (h1 : 1 ≤ zs.length) (hn : zs.length ≤ 64) (hS : ∀ i, i < zs.length → (nth zs i).sz ≤ 2 ^ 39) :
    CallDS Try.prog n_transform_shares_num_Num_ (fun b => (Value.slice (some ⟨b, 0, none⟩) zs.length c :: [] : List Value)) 31 l V fun l' V' => NumsIn V' l' (sharesF zs) := by
  refine transform_shares_num_Num__vc 0 zs.length c l V _ (fun _ x V' => 0 ≤ x.t10 ∧ x.t10 ≤ zs.length ∧ NumsIn V' x.o0 (patch zs.length x.t10.toNat (fun i => nth zs i * partQ zs.length) (nth zs))) (fun _ x _ => zs.length - x.t10.toNat) ?_
  refine (of_spec (p := 1) (q := (zs.length : Int)) (by omega) (by omega) (by omega) (by omega) (by omega)).mono fun v V1 l1 ⟨r1, hv, hr1⟩ => ⟨r1, hv, ⟨Int.le_refl 0, Int.natCast_nonneg _, ?_⟩, ?_⟩
  · show NumsIn V1 l (patch zs.length 0 _ _)
    rw [patch_zero]; exact h.le l1
  rintro ⟨t, o⟩ V2 l2 ⟨h0, ht, ho⟩
  dsimp only at h0 ht ho ⊢
  refine ⟨fun hlt => ?_, fun hge => ?_⟩
  · simp only [decide_eq_true_eq] at hlt
    have hk : t.toNat < zs.length := by omega
    obtain ⟨x, hx, hnx⟩ := ho.cut (i := t.toNat) (by rw [patch_length]; exact hk)
    rw [patch_nth hk (Nat.le_refl _)] at hnx
    have hs := partQ_sz h1 hn
    refine ⟨⟨h0, hlt⟩, x, hx, (Num_Mul_spec hnx (hr1.le l2) (by have := hS _ hk; omega) (by show (partQ zs.length).sz ≤ _; omega)).mono fun v V3 l3 ⟨r2, hv, hr2⟩ => ⟨r2, hv, ⟨h0, hlt⟩, Cells.room ho (by rw [patch_length]; exact hk), ?_⟩⟩
    have e : IntKind.i64.wrap (t + 1) = t + 1 := i64w (by omega) (by omega)
    have e2 : (t + 1).toNat = t.toNat + 1 := by omega
    rw [e]
    refine ⟨⟨by omega, by omega, ?_⟩, by omega⟩
    rw [e2, ← patch_set hk]
    exact (ho.le l3).set (by rw [patch_length]; exact hk) hr2
  · simp only [decide_eq_false_iff_not] at hge
    have e : t.toNat = zs.length := by omega
    rw [e, patch_all] at ho
    exact ⟨⟨rfl, rfl, rfl⟩, ho⟩

theorem Forward_owned {V : View} {p w : Sl} {zs ws : List Cq} (S T : Nat) (hl : lenB zs.length = true) (hw : ws.length = zs.length) (hp : NumsAt V p zs) (hq : NumsAt V w ws)
    (hS : ∀ i, i < zs.length → (nth zs i).sz ≤ S) (hT : ∀ i, i < zs.length → (nth ws i).sz ≤ T) (hsz : 64 * (S + T + 2) ≤ 2 ^ 39) :
    CallO Try.prog n_transform_Forward_num_Num_ #[p.v, w.v] 31 V fun n cap l rest V' => n = (fwdF zs ws).length ∧ cap = n ∧ rest = [.int .i64 0] ∧ NumsIn V' l (fwdF zs ws) := by
  have hpl := hp.len
  have hwl := hq.len
  have hb := lenB_le hl
  rw [fwdF_length]
  refine transform_Forward_num_Num__vc p w V _ (fun _ x V' => 0 ≤ x.t21 ∧ x.t21 ≤ zs.length ∧ NumsIn V' x.o18 (filled zs.length x.t21.toNat fun k => fsum zs ws k (zs.length - 1))) (fun _ x _ => zs.length - x.t21.toNat)
    (fun c x V' => 1 ≤ x.t10 ∧ x.t10 ≤ zs.length ∧ NumAt V' x.o9 (fsum zs ws c.t21.toNat (x.t10.toNat - 1)) ∧ NumsIn V' x.o18 (filled zs.length c.t21.toNat fun k => fsum zs ws k (zs.length - 1))) (fun _ x _ => zs.length - x.t10.toNat)
    ((transform_fits_spec p w).mono fun v V1 l1 hv => ⟨_, hv, fun h => ?_, fun h => ⟨⟨by omega, by omega, by omega, by omega⟩, ⟨Int.le_refl 0, Int.natCast_nonneg _, ?_⟩, ?_⟩⟩)
  · rw [hwl, hw, hl, hpl] at h; simp at h
  · rw [Int.toNat_natCast, hpl]
    show NumsIn V1 _ (filled zs.length 0 _)
    rw [filled_zero]; exact NumsIn.zeros _ _
  rintro ⟨t, o⟩ V2 l2 ⟨h0, ht, ho⟩
  dsimp only at h0 ht ho ⊢
  rw [Int.toNat_natCast, hpl]
  have hp2 := hp.le (View.le_trans l1 l2)
  have hq2 := hq.le (View.le_trans l1 l2)
  refine ⟨fun hlt => ?_, fun hge => ?_⟩
  · simp only [decide_eq_true_eq] at hlt
    have hk : t.toNat < zs.length := by omega
    obtain ⟨hb3, x3, hx3, hs3, hn3⟩ := hp2.get (t := 0) (Int.le_refl 0) (by show 0 < _; omega)
    obtain ⟨hb4, x4, hx4, hs4, hn4⟩ := hq2.get (t := 0) (Int.le_refl 0) (by show 0 < _; omega)
    rw [hpl] at hb3
    refine ⟨hb3, x3, hx3, hs3, hb4, x4, hx4, hs4, (Num_Mul_spec hn3 hn4 (by have := hS 0 (by omega); show (nth zs 0).sz ≤ _; omega) (by have := hT 0 (by omega); show (nth ws 0).sz ≤ _; omega)).mono fun v V3 l3 ⟨r2, hv, hr2⟩ => ⟨r2, hv, ⟨Int.le_refl 1, by show (1 : Int) ≤ _; omega, hr2, ho.le l3⟩, ?_⟩⟩
    rintro ⟨j, sm, o6⟩ V4 l4 ⟨hj1, hj2, hsm, ho6⟩
    dsimp only at hj1 hj2 hsm ho6 ⊢
    refine ⟨fun hjl => ?_, fun hjg => ?_⟩
    · simp only [decide_eq_true_eq] at hjl
      have hjk : j.toNat < zs.length := by omega
      obtain ⟨hb7, x7, hx7, hs7, hn7⟩ := (hp2.le (View.le_trans l3 l4)).get (t := j) (by omega) hjk
      have hprod : IntKind.i64.wrap (j * t) = ((j.toNat * t.toNat : Nat) : Int) := by
        have h1 : j * t = ((j.toNat * t.toNat : Nat) : Int) := by
          rw [Int.natCast_mul, Int.toNat_of_nonneg (by omega), Int.toNat_of_nonneg h0]
        rw [h1]
        have h2 : j.toNat * t.toNat ≤ 64 * 64 := Nat.mul_le_mul (by omega) (by omega)
        exact i64w (by omega) (by omega)
      have hmod : Int.tmod (IntKind.i64.wrap (j * t)) (zs.length : Int) = ((j.toNat * t.toNat % zs.length : Nat) : Int) := by
        rw [hprod, Int.tmod_eq_emod_of_nonneg (Int.natCast_nonneg _)]; rfl
      have hml : j.toNat * t.toNat % zs.length < zs.length := Nat.mod_lt _ (by omega)
      rw [hmod]
      obtain ⟨hb8, x8, hx8, hs8, hn8⟩ := (hq2.le (View.le_trans l3 l4)).get (t := ((j.toNat * t.toNat % zs.length : Nat) : Int)) (Int.natCast_nonneg _) (by rw [Int.toNat_natCast]; omega)
      rw [Int.toNat_natCast] at hn8
      rw [hpl] at hb7
      have sj := hS _ hjk
      have sw := hT _ hml
      have sm1 := fsum_sz zs ws t.toNat S T hw hS hT (j.toNat - 1) (by omega)
      have sm2 : (j.toNat - 1 + 1) * (S + T + 2) ≤ 64 * (S + T + 2) := Nat.mul_le_mul_right _ (by omega)
      have sm3 := Cq.sz_mul (nth zs j.toNat) (nth ws (j.toNat * t.toNat % zs.length))
      refine ⟨hb7, x7, hx7, hs7, by omega, hb8, x8, hx8, hs8, (Num_Mul_spec hn7 hn8 (by omega) (by omega)).mono fun v V5 l5 ⟨r3, hv, hr3⟩ => ⟨r3, hv, ?_⟩⟩
      refine (Num_Add_spec (hsm.le l5) hr3 (by omega) (by omega)).mono fun v V6 l6 ⟨r4, hv, hr4⟩ => ⟨r4, hv, ?_⟩
      have e : IntKind.i64.wrap (j + 1) = j + 1 := i64w (by omega) (by omega)
      rw [e]
      refine ⟨⟨by omega, by omega, ?_, ho6.le (View.le_trans l5 l6)⟩, by omega⟩
      have e2 : (j + 1).toNat - 1 = (j.toNat - 1) + 1 := by omega
      have e3 : j.toNat - 1 + 1 = j.toNat := by omega
      rw [e2, fsum, e3]; exact hr4
    · simp only [decide_eq_false_iff_not] at hjg
      have e : IntKind.i64.wrap (t + 1) = t + 1 := i64w (by omega) (by omega)
      have e2 : (t + 1).toNat = t.toNat + 1 := by omega
      have e3 : j.toNat = zs.length := by omega
      rw [e3] at hsm
      refine ⟨⟨h0, hlt⟩, Cells.room ho6 (by rw [filled_length (by omega)]; omega), ?_⟩
      rw [e]
      refine ⟨⟨by omega, by omega, ?_⟩, by omega⟩
      rw [e2, ← filled_set hk]
      exact ho6.set (by rw [filled_length (by omega)]; omega) hsm
  · simp only [decide_eq_false_iff_not] at hge
    have e : t.toNat = zs.length := by omega
    rw [e, filled_all] at ho
    refine ⟨⟨by omega, ?_⟩, rfl, rfl, rfl, ho⟩
    intro eo
    subst eo
    have := Cells.length ho
    simp at this; omega
end Go.Proofs.Ytnbjnokgmeamdaa
