/- Part of the proof; it has the parts CLs1 CLs. -/
import Derived.Test.YtcapadojlaojkaaGreatPartD
namespace Go.Proofs.YtcapadojlaojkaaGreat
open Go Go.Vc Go.Proofs

theorem over_spec {V : View} (p q : Sl) : CallV Tryz.prog n_waveportref07_over #[p.v, q.v] V fun v _ => v = .bool (lenB q.len && decide (p.len = q.len)) := by
  refine waveportref07_over_vc p q V _ ((Length_spec _).mono fun v V1 _ hv => ⟨_, hv, fun h => ?_, fun h => ?_⟩)
  · rw [Int.toNat_natCast] at h
    rw [h, Bool.true_and]
    congr 1
    by_cases c : p.len = q.len
    · rw [decide_eq_true c, c]; simp
    · rw [decide_eq_false c]
      have : ¬ ((p.len : Int) = q.len) := by omega
      simpa using this
  · rw [Int.toNat_natCast] at h
    rw [h, Bool.false_and]

theorem refConjugates_spec {V : View} {s : Sl} {zs : List Cq} (h : QsAt V s zs) (hn : zs.length ≤ 2 ^ 32) :
    CallV Tryz.prog n_waveportref07_conjugates #[s.v] V fun v V' => ∃ r : Sl, v = r.v ∧ QsAt V' r (conjF zs) := by
  have hl := h.len
  refine waveportref07_conjugates_vc s V _ (fun _ x V' => ∃ k : Nat, x.t4 = (k : Int) ∧ k ≤ zs.length ∧ OptIn qC V' x.o7 zs.length (seqF (fun i => (nth zs i).conj) k)) (fun _ x _ => (zs.length - x.t4).toNat) ?_
  rw [hl, Int.toNat_natCast]
  refine ⟨⟨by omega, by omega, by omega, by omega⟩, ⟨0, rfl, by omega, OptIn.start qC V _ _⟩, ?_⟩
  rintro ⟨t, o⟩ V1 l1 ⟨k, rfl, hk, ho⟩
  dsimp only at ho ⊢
  refine ⟨fun hlt => ?_, fun hge b V3 l3 hb => ?_⟩
  · simp only [decide_eq_true_eq] at hlt
    have hk' : k < zs.length := by omega
    obtain ⟨hb, x, hx, hs, hnx⟩ := (h.le l1).get (t := (k : Int)) (by omega) (by rw [Int.toNat_natCast]; exact hk')
    rw [hl] at hb
    rw [Int.toNat_natCast] at hnx
    refine ⟨hb, x, hx, hs, (ref1_Conj_spec hnx).mono fun v V2 l2 ⟨r, hv, hr⟩ => ⟨r, hv, ⟨by omega, by omega⟩, ?_⟩⟩
    rw [Int.toNat_natCast, i64w (by omega) (by omega)]
    have ho2 := ho.le (qC.le l2)
    exact ⟨ho2.room hk', ⟨k + 1, by omega, by omega, ho2.next hk' (q_len5 r) ⟨r, rfl, hr⟩⟩, by omega⟩
  · simp only [decide_eq_false_iff_not] at hge
    have hk' : k = zs.length := by omega
    subst hk'
    exact ⟨_, rfl, QsAt.of_made (zs := conjF zs) hb ((ho.le (qC.le l3)).all fun p hp => seqF_all hp) (by simp [conjF])⟩

theorem refDivided_spec {V : View} {s : Sl} {zs : List Cq} (h : QsAt V s zs) (h1 : 1 ≤ zs.length) (hn : zs.length ≤ 64) (hS : ∀ i, i < zs.length → (nth zs i).sz ≤ 2 ^ 39) :
    CallV Tryz.prog n_waveportref07_divided #[s.v] V fun v V' => ∃ r : Sl, v = r.v ∧ QsAt V' r (sharesF zs) := by
  have hl := h.len
  refine waveportref07_divided_vc s V _ (fun _ x V' => ∃ k : Nat, x.t6 = (k : Int) ∧ k ≤ zs.length ∧ OptIn qC V' x.o15 zs.length (seqF (fun i => nth zs i * partQ zs.length) k)) (fun _ x _ => (zs.length - x.t6).toNat) ?_
  rw [hl]
  refine (ref1_New_spec (by omega) (by omega) (by omega) (by omega) (by omega) (by omega) (by omega)).mono fun v V1 l1 ⟨r1, hv, g1⟩ => ⟨r1, 0, hv, ?_⟩
  rw [Int.toNat_natCast]
  refine ⟨⟨by omega, by omega, by omega, by omega⟩, ⟨0, rfl, by omega, OptIn.start qC V1 _ _⟩, ?_⟩
  rintro ⟨t, o⟩ V2 l2 ⟨k, rfl, hk, ho⟩
  dsimp only at ho ⊢
  refine ⟨fun hlt => ?_, fun hge b V3 l3 hb => ?_⟩
  · simp only [decide_eq_true_eq] at hlt
    have hk' : k < zs.length := by omega
    obtain ⟨hb, x, hx, hs, hnx⟩ := (h.le (View.le_trans l1 l2)).get (t := (k : Int)) (by omega) (by rw [Int.toNat_natCast]; exact hk')
    rw [hl] at hb
    rw [Int.toNat_natCast] at hnx
    have hs1 := hS k hk'
    have hs2 := partQ_sz h1 hn
    refine ⟨hb, x, hx, hs, (ref1_Mul_spec hnx (g1.le l2) (by omega) (by show (partQ zs.length).sz ≤ _; omega)).mono fun v V3 l3 ⟨r, hv, hr⟩ => ⟨r, hv, ⟨by omega, by omega⟩, ?_⟩⟩
    rw [Int.toNat_natCast, i64w (by omega) (by omega)]
    have ho2 := ho.le (qC.le l3)
    exact ⟨ho2.room hk', ⟨k + 1, by omega, by omega, ho2.next hk' (q_len5 r) ⟨r, rfl, hr⟩⟩, by omega⟩
  · simp only [decide_eq_false_iff_not] at hge
    have hk' : k = zs.length := by omega
    subst hk'
    exact ⟨_, rfl, QsAt.of_made (zs := sharesF zs) hb ((ho.le (qC.le l3)).all fun p hp => seqF_all hp) (by simp [sharesF])⟩

theorem refSum_spec {V : View} {p w : Sl} {zs ws : List Cq} {k : Nat} (S T : Nat) (hb : 1 ≤ zs.length ∧ zs.length ≤ 64) (hw : ws.length = zs.length) (hp : QsAt V p zs) (hq : QsAt V w ws)
    (hS : ∀ i, i < zs.length → (nth zs i).sz ≤ S) (hT : ∀ i, i < zs.length → (nth ws i).sz ≤ T) (hsz : 64 * (S + T + 2) ≤ 2 ^ 39) (hk : k < zs.length) :
    CallV Tryz.prog n_waveportref07_sum #[p.v, w.v, .int .i64 (k : Int)] V fun v V' => ∃ r : NumV, v = r.val ∧ QAt V' r (fsum zs ws k (zs.length - 1)) := by
  have hpl := hp.len
  have hwl := hq.len
  obtain ⟨hb3, x3, hx3, hs3, hn3⟩ := hp.get (t := 0) (Int.le_refl 0) (by show 0 < _; omega)
  obtain ⟨hb4, x4, hx4, hs4, hn4⟩ := hq.get (t := 0) (Int.le_refl 0) (by show 0 < _; omega)
  refine waveportref07_sum_vc p w (k : Int) V _ (fun _ x V' => ∃ j : Nat, x.t8 = (j : Int) ∧ 1 ≤ j ∧ j ≤ zs.length ∧ QAt V' x.o7 (fsum zs ws k (j - 1))) (fun _ x _ => (zs.length - x.t8).toNat) ?_
  refine ⟨hb3, x3, hx3, hs3, hb4, x4, hx4, hs4, ?_⟩
  rw [hpl, hwl, hw]
  refine (ref1_Mul_spec hn3 hn4 (by have := hS 0 (by omega); show (nth zs 0).sz ≤ _; omega) (by have := hT 0 (by omega); show (nth ws 0).sz ≤ _; omega)).mono fun v V1 l1 ⟨r1, hv, h1⟩ => ⟨r1, hv, ⟨1, rfl, by omega, by omega, h1⟩, ?_⟩
  rintro ⟨t, o6, sm⟩ V2 l2 ⟨j, rfl, hj1, hj2, hsm⟩
  dsimp only at hsm ⊢
  refine ⟨fun hlt => ?_, fun hge => ?_⟩
  · simp only [decide_eq_true_eq] at hlt
    have hjk : j < zs.length := by omega
    obtain ⟨hb7, x7, hx7, hs7, hn7⟩ := (hp.le (View.le_trans l1 l2)).get (t := (j : Int)) (by omega) (by rw [Int.toNat_natCast]; exact hjk)
    have hprod : IntKind.i64.wrap ((j : Int) * (k : Int)) = ((j * k : Nat) : Int) := by
      have h2 : j * k ≤ 64 * 64 := Nat.mul_le_mul (by omega) (by omega)
      rw [← Int.natCast_mul]
      exact i64w (by omega) (by omega)
    have hmod : Int.tmod (IntKind.i64.wrap ((j : Int) * (k : Int))) (zs.length : Int) = ((j * k % zs.length : Nat) : Int) := by
      rw [hprod, Int.tmod_eq_emod_of_nonneg (Int.natCast_nonneg _)]; rfl
    have hml : j * k % zs.length < zs.length := Nat.mod_lt _ (by omega)
    rw [hmod]
    obtain ⟨hb8, x8, hx8, hs8, hn8⟩ := (hq.le (View.le_trans l1 l2)).get (t := ((j * k % zs.length : Nat) : Int)) (Int.natCast_nonneg _) (by rw [Int.toNat_natCast]; omega)
    rw [Int.toNat_natCast] at hn7 hn8
    rw [hpl] at hb7
    rw [hwl, hw] at hb8
    have sj := hS _ hjk
    have sw := hT _ hml
    have sm1 := fsum_sz zs ws k S T hw hS hT (j - 1) (by omega)
    have sm2 : (j - 1 + 1) * (S + T + 2) ≤ 64 * (S + T + 2) := Nat.mul_le_mul_right _ (by omega)
    have sm3 := Cq.sz_mul (nth zs j) (nth ws (j * k % zs.length))
    refine ⟨hb7, x7, hx7, hs7, by omega, hb8, x8, hx8, hs8, (ref1_Mul_spec hn7 hn8 (by omega) (by omega)).mono fun v V5 l5 ⟨r3, hv, hr3⟩ => ⟨r3, hv, ?_⟩⟩
    refine (ref1_Add_spec (hsm.le l5) hr3 (by omega) (by omega)).mono fun v V6 l6 ⟨r4, hv, hr4⟩ => ⟨r4, hv, ?_⟩
    rw [i64w (by omega) (by omega)]
    refine ⟨⟨j + 1, by omega, by omega, by omega, ?_⟩, by omega⟩
    have e2 : j + 1 - 1 = (j - 1) + 1 := by omega
    have e3 : j - 1 + 1 = j := by omega
    rw [e2, fsum, e3]; exact hr4
  · simp only [decide_eq_false_iff_not] at hge
    have e : j = zs.length := by omega
    subst e
    exact ⟨_, rfl, hsm⟩

theorem refForward_spec {V : View} {p w : Sl} {zs ws : List Cq} (S T : Nat) (hl : lenB zs.length = true) (hw : ws.length = zs.length) (hp : QsAt V p zs) (hq : QsAt V w ws)
    (hS : ∀ i, i < zs.length → (nth zs i).sz ≤ S) (hT : ∀ i, i < zs.length → (nth ws i).sz ≤ T) (hsz : 64 * (S + T + 2) ≤ 2 ^ 39) :
    CallV Tryz.prog n_waveportref07_Forward #[p.v, w.v] V fun v V' => ∃ r : Sl, v = .tuple #[r.v, .int .i64 0] ∧ QsAt V' r (fwdF zs ws) := by
  have hpl := hp.len
  have hwl := hq.len
  have hb := lenB_le hl
  refine waveportref07_Forward_vc p w V _ (fun _ x V' => ∃ k : Nat, x.t7 = (k : Int) ∧ k ≤ zs.length ∧ OptIn qC V' x.o14 zs.length (seqF (fun k => fsum zs ws k (zs.length - 1)) k)) (fun _ x _ => (zs.length - x.t7).toNat)
    ((over_spec p w).mono fun v V1 l1 hv => ⟨_, hv, fun h => ?_, fun _ => ?_⟩)
  · rw [hwl, hw, hl, hpl] at h; simp at h
  rw [hpl, Int.toNat_natCast]
  refine ⟨⟨by omega, by omega, by omega, by omega⟩, ⟨0, rfl, by omega, OptIn.start qC V1 _ _⟩, ?_⟩
  rintro ⟨t, o⟩ V2 l2 ⟨k, rfl, hk, ho⟩
  dsimp only at ho ⊢
  refine ⟨fun hlt => ?_, fun hge b V3 l3 hb3 => ?_⟩
  · simp only [decide_eq_true_eq] at hlt
    have hk' : k < zs.length := by omega
    refine (refSum_spec S T hb hw (hp.le (View.le_trans l1 l2)) (hq.le (View.le_trans l1 l2)) hS hT hsz hk').mono fun v V3 l3 ⟨r, hv, hr⟩ => ⟨r, hv, ⟨by omega, by omega⟩, ?_⟩
    rw [Int.toNat_natCast, i64w (by omega) (by omega)]
    have ho2 := ho.le (qC.le l3)
    exact ⟨ho2.room hk', ⟨k + 1, by omega, by omega, ho2.next hk' (q_len5 r) ⟨r, rfl, hr⟩⟩, by omega⟩
  · simp only [decide_eq_false_iff_not] at hge
    have hk' : k = zs.length := by omega
    subst hk'
    exact ⟨_, rfl, QsAt.of_made (zs := fwdF zs ws) hb3 ((ho.le (qC.le l3)).all fun p hp => seqF_all hp) (by simp [fwdF])⟩

theorem refBack_spec {V : View} {p w : Sl} {zs ws : List Cq} (S T : Nat) (hl : lenB zs.length = true) (hw : ws.length = zs.length) (hp : QsAt V p zs) (hq : QsAt V w ws)
    (hS : ∀ i, i < zs.length → (nth zs i).sz ≤ S) (hT : ∀ i, i < zs.length → (nth ws i).sz ≤ T) (hsz : 64 * (S + T + 2) ≤ 2 ^ 39) :
    CallV Tryz.prog n_waveportref07_Back #[p.v, w.v] V fun v V' => ∃ r : Sl, v = .tuple #[r.v, .int .i64 0] ∧ QsAt V' r (sharesF (fwdF zs (conjF ws))) := by
  have hpl := hp.len
  have hwl := hq.len
  have hb := lenB_le hl
  refine waveportref07_Back_vc p w V _ ((over_spec p w).mono fun v V1 l1 hv => ⟨_, hv, fun h => ?_, fun _ => ?_⟩)
  · rw [hwl, hw, hl, hpl] at h; simp at h
  refine (refConjugates_spec (hq.le l1) (by omega)).mono fun v V2 l2 ⟨r2, hv, h2⟩ => ⟨r2, hv, ?_⟩
  have hcl : (conjF ws).length = zs.length := by rw [conjF_length, hw]
  have hT2 := conjF_sz ws T (by rw [hw]; exact hT)
  rw [hw] at hT2
  have hfs := fwdF_sz zs (conjF ws) S T hcl hS hT2
  have hfl := fwdF_length zs (conjF ws)
  have hm : zs.length * (S + T + 2) ≤ 64 * (S + T + 2) := Nat.mul_le_mul_right _ hb.2
  refine (refForward_spec S T hl hcl (hp.le (View.le_trans l1 l2)) h2 hS hT2 hsz).mono fun v V3 l3 ⟨r3, hv, h3⟩ => ⟨r3, 0, hv, ?_⟩
  exact (refDivided_spec h3 (by omega) (by omega) (by rw [hfl]; intro i hi; have := hfs i hi; omega)).mono fun v V4 l4 ⟨r4, hv, h4⟩ => ⟨r4, hv, r4, rfl, h4⟩

theorem refEvery_spec {V : View} {s : Sl} {zs : List Cq} {a : Int} (h : QsAt V s zs) (ha : 0 ≤ a) (ha1 : a ≤ 1) (hn : zs.length ≤ 2 ^ 32) (hn1 : 1 ≤ zs.length) :
    CallV Tryz.prog n_waveportref07_every #[s.v, .int .i64 a] V fun v V' => ∃ r : Sl, v = r.v ∧ QsAt V' r (everyF zs a.toNat) := by
  have hl := h.len
  refine waveportref07_every_vc s a V _ (fun _ x V' => ∃ l, x.t6 = a + 2 * x.t5l ∧ 2 * x.t5l + a.toNat ≤ zs.length + 1 ∧ LstOk 5 x.t5l x.t5c x.o7 l ∧ QsIn V' l ((List.range x.t5l).map fun k => nth zs (a.toNat + 2 * k)))
    (fun _ x _ => zs.length + 2 - 2 * x.t5l) ⟨⟨[], by simp, by simp; omega, LstOk.nil, rfl⟩, ?_⟩
  rintro ⟨n, c, t, o⟩ V1 l1 ⟨l, ht, hm, hlo, hin⟩
  dsimp only at ht hm hlo hin ⊢
  refine ⟨fun hlt => ?_, fun hge => ?_⟩
  · simp only [decide_eq_true_eq] at hlt
    obtain ⟨hb, x, hx, hs, hnx⟩ := (h.le l1).get (t := t) (by omega) (by omega)
    refine ⟨hb, x, hx, hs, fun b V2 l2 hf hV2 => ?_⟩
    refine ⟨l, _, hlo, has_block (l := [.bool x.re.neg, x.re.mag.v, .bool x.im.neg, x.im.mag.v, x.under.v]) hV2, rfl, oneCell_num x, ?_, ?_, fun c1 l3 hl3 => ?_⟩
    · simp only [maxLen]; omega
    · omega
    · have e : IntKind.i64.wrap (t + 2) = t + 2 := i64w (by omega) (by omega)
      refine ⟨⟨_, by rw [e]; omega, by omega, hl3, ?_⟩, by omega⟩
      rw [← push_range]
      have e3 : a.toNat + 2 * n = t.toNat := by omega
      rw [e3]
      exact (hin.le l2).push (hnx.le l2)
  · simp only [decide_eq_false_iff_not] at hge
    intro b V3 l3 hb
    refine ⟨_, rfl, ?_⟩
    have e : n = (zs.length + 1 - a.toNat) / 2 := by omega
    unfold everyF
    rw [← e]
    obtain ⟨o', ho'⟩ := hlo.split
    refine ListAt.of_block (o := l) (o' := o') (b := b) (fun hne => ?_) (hin.le l3) (by simp) hlo.le (fun _ => rfl)
    rw [← ho'] at hne ⊢
    exact hb hne

/-- A list that is filled from the front and from the middle. -/
def twoF (h k : Nat) (F : Nat → Cq) (p : Nat) : Option Cq := if p < k ∨ (h ≤ p ∧ p < h + k) then some (F p) else none
theorem twoF_zero (h : Nat) (F : Nat → Cq) (p : Nat) : twoF h 0 F p = none := by unfold twoF; rw [if_neg (by omega)]
theorem twoF_step {h k : Nat} (hk : k < h) (F : Nat → Cq) (p : Nat) : (if p = k + h then some (F (k + h)) else if p = k then some (F k) else twoF h k F p) = twoF h (k + 1) F p := by
  unfold twoF
  by_cases c : p = k + h
  · subst c; rw [if_pos rfl, if_pos (by omega)]
  · rw [if_neg c]
    by_cases c2 : p = k
    · subst c2; rw [if_pos rfl, if_pos (by omega)]
    · rw [if_neg c2]
      by_cases c3 : p < k ∨ (h ≤ p ∧ p < h + k)
      · rw [if_pos c3, if_pos (by omega)]
      · rw [if_neg c3, if_neg (by omega)]

theorem refStages_spec : ∀ (m : Nat) {V : View} {p w : Sl} {zs ws : List Cq} (S T : Nat), m ≤ 6 → zs.length = 2 ^ m → ws.length = 2 ^ m → QsAt V p zs → QsAt V w ws →
    (∀ i, i < 2 ^ m → (nth zs i).sz ≤ S) → (∀ i, i < 2 ^ m → (nth ws i).sz ≤ T) → 2 ^ m * (S + T + 2) ≤ 2 ^ 39 →
    CallV Tryz.prog n_waveportref07_stages #[p.v, w.v] V fun v V' => ∃ r : Sl, v = r.v ∧ QsAt V' r (stageF m zs ws)
  | m, V, p, w, zs, ws, S, T, hm, hz, hw, hp, hq, hS, hT, hsz => by
    have hpl := hp.len
    have hwl := hq.len
    have hpow : 2 ^ m ≤ 64 := Nat.pow_le_pow_right (n := 2) (by omega) hm
    have hpos : 0 < 2 ^ m := Nat.pow_pos (by omega)
    refine waveportref07_stages_vc p w V _ (fun c x V' => ∃ m' k : Nat, m = m' + 1 ∧ x.t9 = (k : Int) ∧ k ≤ 2 ^ m' ∧ OptIn qC V' x.o30 (2 ^ m) (twoF (2 ^ m') k fun i => nth (stageF m zs ws) i))
      (fun _ x _ => (((2 ^ m : Nat) : Int) - x.t9).toNat) ⟨fun h1 => ?_, fun h1 => ?_⟩
    · have h1 : p.len = 1 := by have : (p.len : Int) = 1 := (by simpa using h1); omega
      have hm0 : m = 0 := by
        rcases Nat.eq_zero_or_pos m with h | h
        · exact h
        · have : 2 ^ 1 ≤ 2 ^ m := Nat.pow_le_pow_right (by omega) h
          omega
      subst hm0
      obtain ⟨hb, x, hx, hs, hnx⟩ := hp.get (t := 0) (by omega) (by simp [hz])
      refine ⟨hb, x, hx, hs, fun b V1 l1 _ hb1 => ⟨_, rfl, ?_⟩⟩
      exact QsAt.of_made (zs := stageF 0 zs ws) (o := [.bool x.re.neg, x.re.mag.v, .bool x.im.neg, x.im.mag.v, x.under.v]) (by simpa using hb1) (Cells.one (z := nth zs 0) rfl ⟨x, rfl, hnx.le l1⟩) rfl
    · have h1 : p.len ≠ 1 := by intro e; simp [e] at h1
      obtain ⟨m', rfl⟩ : ∃ m', m = m' + 1 := ⟨m - 1, by rcases Nat.eq_zero_or_pos m with h | h; · subst h; simp at hz; omega
                                                        · omega⟩
      have hp2 : 2 ^ (m' + 1) = 2 * 2 ^ m' := by rw [Nat.pow_succ]; omega
      have hmul : 2 ^ (m' + 1) * (S + T + 2) = 2 * (2 ^ m' * (S + T + 2)) := by rw [hp2, Nat.mul_assoc]
      have bz : ∀ a, a ≤ 1 → ∀ i, i < 2 ^ m' → (nth (everyF zs a) i).sz ≤ S := by
        intro a ha i hi; rw [everyF_nth (by omega)]; exact hS _ (by omega)
      have bw : ∀ i, i < 2 ^ m' → (nth (everyF ws 0) i).sz ≤ T := by
        intro i hi; rw [everyF_nth (by omega)]; exact hT _ (by omega)
      refine (refEvery_spec hp (Int.le_refl 0) (by omega) (by omega) (by omega)).mono fun v V1 l1 ⟨r1, hv, hr1⟩ => ⟨r1, hv, ?_⟩
      refine (refEvery_spec (hq.le l1) (Int.le_refl 0) (by omega) (by omega) (by omega)).mono fun v V2 l2 ⟨r2, hv, hr2⟩ => ⟨r2, hv, ?_⟩
      refine (refStages_spec m' S T (by omega) (by simp [everyF_length]; omega) (by simp [everyF_length]; omega) (hr1.le l2) hr2 (bz 0 (by omega)) bw (by omega)).mono fun v V3 l3 ⟨r3, hv, hr3⟩ => ⟨r3, hv, ?_⟩
      have L3 := View.le_trans l1 (View.le_trans l2 l3)
      refine (refEvery_spec (hp.le L3) (a := 1) (by omega) (by omega) (by omega) (by omega)).mono fun v V4 l4 ⟨r4, hv, hr4⟩ => ⟨r4, hv, ?_⟩
      refine (refEvery_spec (hq.le (View.le_trans L3 l4)) (Int.le_refl 0) (by omega) (by omega) (by omega)).mono fun v V5 l5 ⟨r5, hv, hr5⟩ => ⟨r5, hv, ?_⟩
      refine (refStages_spec m' S T (by omega) (by simp [everyF_length]; omega) (by simp [everyF_length]; omega) (hr4.le l5) hr5 (bz 1 (by omega)) bw (by omega)).mono fun v V6 l6 ⟨r6, hv, hr6⟩ => ⟨r6, hv, ?_⟩
      have L6 : View.le V V6 := View.le_trans L3 (View.le_trans l4 (View.le_trans l5 l6))
      have hr6 : QsAt V6 r6 (stageF m' (everyF zs 1) (everyF ws 0)) := hr6
      have h3 : QsAt V6 r3 (stageF m' (everyF zs 0) (everyF ws 0)) := hr3.le (View.le_trans l4 (View.le_trans l5 l6))
      have hdiv : IntKind.i64.wrap (Int.tdiv (p.len : Int) 2) = ((2 ^ m' : Nat) : Int) := by
        have e : Int.tdiv (p.len : Int) 2 = ((2 ^ m' : Nat) : Int) := by
          rw [Int.tdiv_eq_ediv_of_nonneg (by omega)]; omega
        rw [e]; exact i64w (by omega) (by omega)
      rw [hdiv, hpl, hz, Int.toNat_natCast]
      have lz := stageF_length m' (everyF zs 0) (everyF ws 0)
      have lw := stageF_length m' (everyF zs 1) (everyF ws 0)
      refine ⟨⟨by omega, by omega, by omega, by omega⟩, ⟨m', 0, rfl, rfl, by omega, (OptIn.zeros qC V6 _).congr fun p _ => (twoF_zero _ _ p).symm⟩, ?_⟩
      rintro ⟨t, o⟩ V7 l7 ⟨m2, k, em, rfl, hk, ho⟩
      have em : m' = m2 := by omega
      subst em
      dsimp only at ho ⊢
      refine ⟨fun hlt => ?_, fun hge b V12 l12 hb => ?_⟩
      · simp only [decide_eq_true_eq] at hlt
        have hk' : k < 2 ^ m' := by omega
        have l6' := hr6.len
        have l3' := h3.len
        obtain ⟨hb4, x4, hx4, hs4, hn4⟩ := (hr6.le l7).get (t := (k : Int)) (by omega) (by rw [Int.toNat_natCast]; omega)
        obtain ⟨hb5, x5, hx5, hs5, hn5⟩ := (hq.le (View.le_trans L6 l7)).get (t := (k : Int)) (by omega) (by rw [Int.toNat_natCast]; omega)
        have sE := stageF_sz m' (everyF zs 0) (everyF ws 0) S T (by simp [everyF_length]; omega) (by simp [everyF_length]; omega) (bz 0 (by omega)) bw k hk'
        have sO := stageF_sz m' (everyF zs 1) (everyF ws 0) S T (by simp [everyF_length]; omega) (by simp [everyF_length]; omega) (bz 1 (by omega)) bw k hk'
        have sW := hT k (by omega)
        have hm2 : S + T + 2 ≤ 2 ^ m' * (S + T + 2) := Nat.le_mul_of_pos_left _ (Nat.pow_pos (by omega))
        have sU := Cq.sz_mul (nth (stageF m' (everyF zs 1) (everyF ws 0)) k) (nth ws k)
        rw [Int.toNat_natCast] at hn4 hn5
        refine ⟨hb4, x4, hx4, hs4, hb5, x5, hx5, hs5, (ref1_Mul_spec hn4 hn5 (by omega) (by omega)).mono fun v V8 l8 ⟨r7, hv, hr7⟩ => ⟨r7, hv, ?_⟩⟩
        obtain ⟨hb6, x6, hx6, hs6, hn6⟩ := (h3.le (View.le_trans l7 l8)).get (t := (k : Int)) (by omega) (by rw [Int.toNat_natCast]; omega)
        have hn6' : QAt V8 x6 (nth (stageF m' (everyF zs 0) (everyF ws 0)) k) := by rw [Int.toNat_natCast] at hn6; exact hn6
        refine ⟨hb6, x6, hx6, hs6, (ref1_Add_spec hn6' hr7 (by omega) (by omega)).mono fun v V9 l9 ⟨r8, hv, hr8⟩ => ⟨r8, hv, ⟨by omega, by omega⟩, ?_⟩⟩
        rw [Int.toNat_natCast]
        have ho9 := ho.le (qC.le (View.le_trans l8 l9))
        refine ⟨ho9.room (by omega), hb6, x6, ?_, ?_, (ref1_Sub_spec (hn6'.le l9) (hr7.le l9) (by omega) (by omega)).mono fun v V10 l10 ⟨r9, hv, hr9⟩ => ⟨r9, hv, ?_⟩⟩
        · rw [Int.toNat_natCast] at hx6; exact View.has_le l9 hx6
        · rw [Int.toNat_natCast] at hs6; exact hs6
        have ek : IntKind.i64.wrap ((k : Int) + ((2 ^ m' : Nat) : Int)) = ((k + 2 ^ m' : Nat) : Int) := by rw [i64w (by omega) (by omega)]; omega
        rw [ek, Int.toNat_natCast, i64w (by omega) (by omega)]
        have e1 : nth (stageF (m' + 1) zs ws) k = nth (stageF m' (everyF zs 0) (everyF ws 0)) k + nth (stageF m' (everyF zs 1) (everyF ws 0)) k * nth ws k := by
          rw [stageF, nth_map (by omega), if_pos hk']
        have e2 : nth (stageF (m' + 1) zs ws) (k + 2 ^ m') = nth (stageF m' (everyF zs 0) (everyF ws 0)) k - nth (stageF m' (everyF zs 1) (everyF ws 0)) k * nth ws k := by
          rw [stageF, nth_map (by omega), if_neg (by omega), Nat.add_sub_cancel]
        have ho10 := ho.le (qC.le (View.le_trans l8 (View.le_trans l9 l10)))
        have s1 := ho10.set (i := k) (by omega) (q_len5 r8) (z := nth (stageF (m' + 1) zs ws) k) ⟨r8, rfl, by rw [e1]; exact hr8.le l10⟩
        have s2 := s1.set (i := k + 2 ^ m') (by omega) (q_len5 r9) (z := nth (stageF (m' + 1) zs ws) (k + 2 ^ m')) ⟨r9, rfl, by rw [e2]; exact hr9⟩
        refine ⟨⟨by omega, by omega⟩, s1.room (by omega), ⟨m', k + 1, rfl, by omega, by omega, s2.congr fun p _ => twoF_step hk' (fun i => nth (stageF (m' + 1) zs ws) i) p⟩, by omega⟩
      · simp only [decide_eq_false_iff_not] at hge
        have hk' : k = 2 ^ m' := by omega
        subst hk'
        have h2 := list_of_nth (stageF (m' + 1) zs ws)
        rw [stageF_length] at h2
        have ha := (ho.le (qC.le l12)).all (F := fun i => nth (stageF (m' + 1) zs ws) i) fun p hp => by unfold twoF; rw [if_pos (by omega)]
        rw [h2] at ha
        exact ⟨_, rfl, QsAt.of_made hb ha (by rw [stageF_length])⟩

theorem refFast_spec {V : View} {p w : Sl} {m : Nat} {zs ws : List Cq} (S T : Nat) (hm : m ≤ 6) (hz : zs.length = 2 ^ m) (hw : ws.length = 2 ^ m) (hp : QsAt V p zs) (hq : QsAt V w ws)
    (hS : ∀ i, i < 2 ^ m → (nth zs i).sz ≤ S) (hT : ∀ i, i < 2 ^ m → (nth ws i).sz ≤ T) (hsz : 2 ^ m * (S + T + 2) ≤ 2 ^ 39) :
    CallV Tryz.prog n_waveportref07_Fast #[p.v, w.v] V fun v V' => ∃ r : Sl, v = .tuple #[r.v, .int .i64 0] ∧ QsAt V' r (stageF m zs ws) := by
  have hl : lenB (2 ^ m) = true := lenB_pow m (by simp; omega)
  refine waveportref07_Fast_vc p w V _ ((over_spec p w).mono fun v V1 l1 hv => ⟨_, hv, fun h => ?_, fun _ => ?_⟩)
  · rw [hq.len, hw, hl, hp.len, hz] at h; simp at h
  · exact (refStages_spec m S T hm hz hw (hp.le l1) (hq.le l1) hS hT hsz).mono fun v V2 l2 ⟨r, hv, hr⟩ => ⟨r, hv, r, rfl, hr⟩

theorem refFastBack_spec {V : View} {p w : Sl} {m : Nat} {zs ws : List Cq} (S T : Nat) (hm : m ≤ 6) (hz : zs.length = 2 ^ m) (hw : ws.length = 2 ^ m) (hp : QsAt V p zs) (hq : QsAt V w ws)
    (hS : ∀ i, i < 2 ^ m → (nth zs i).sz ≤ S) (hT : ∀ i, i < 2 ^ m → (nth ws i).sz ≤ T) (hsz : 64 * (S + T + 2) ≤ 2 ^ 39) :
    CallV Tryz.prog n_waveportref07_FastBack #[p.v, w.v] V fun v V' => ∃ r : Sl, v = .tuple #[r.v, .int .i64 0] ∧ QsAt V' r (sharesF (stageF m zs (conjF ws))) := by
  have hl : lenB (2 ^ m) = true := lenB_pow m (by simp; omega)
  have hb := lenB_le hl
  refine waveportref07_FastBack_vc p w V _ ((over_spec p w).mono fun v V1 l1 hv => ⟨_, hv, fun h => ?_, fun _ => ?_⟩)
  · rw [hq.len, hw, hl, hp.len, hz] at h; simp at h
  refine (refConjugates_spec (hq.le l1) (by omega)).mono fun v V2 l2 ⟨r2, hv, h2⟩ => ⟨r2, hv, ?_⟩
  have hcl : (conjF ws).length = 2 ^ m := by rw [conjF_length, hw]
  have hT2 := conjF_sz ws T (by rw [hw]; exact hT)
  rw [hw] at hT2
  have hfs := stageF_sz m zs (conjF ws) S T hz hcl hS hT2
  have hmul : 2 ^ m * (S + T + 2) ≤ 64 * (S + T + 2) := Nat.mul_le_mul_right _ hb.2
  have hfl := stageF_length m zs (conjF ws)
  refine (refStages_spec m S T hm hz hcl (hp.le (View.le_trans l1 l2)) h2 hS hT2 (by omega)).mono fun v V3 l3 ⟨r3, hv, h3⟩ => ⟨r3, hv, ?_⟩
  exact (refDivided_spec h3 (by omega) (by omega) (by rw [hfl]; intro i hi; have := hfs i hi; omega)).mono fun v V4 l4 ⟨r4, hv, h4⟩ => ⟨r4, hv, r4, rfl, h4⟩
end Go.Proofs.YtcapadojlaojkaaGreat

namespace Go.Proofs.YtcapadojlaojkaaGreat
open Go Go.Vc Go.Proofs

theorem plain_spec {V : View} {s : Sl} {rs : List RatV} (h : RatsAt V s rs) (hn : rs.length ≤ 2 ^ 32) :
    CallV Tryz.prog n_waveportlaw07_plain #[s.v] V fun v V' => ∃ r : Sl, v = r.v ∧ RatsAt V' r (rs.map smallR) := by
  have hl := h.len
  let f : Nat → RatV := fun i => smallR (rnth rs i)
  refine waveportlaw07_plain_vc s V _ (fun _ x V' => ∃ k : Nat, x.t11 = (k : Int) ∧ k ≤ rs.length ∧ Cells 3 ratC V' x.o8 (rfilled rs.length k f)) (fun _ x _ => (rs.length - x.t11).toNat) ?_
  rw [hl, Int.toNat_natCast]
  refine ⟨⟨by omega, by omega, by omega, by omega⟩, ⟨0, rfl, by omega, ?_⟩, ?_⟩
  · have e : rfilled rs.length 0 f = List.replicate rs.length ⟨0, 0, 0⟩ := by simp [rfilled]
    rw [e]
    exact Cells.replicate rfl (ratC_of V 0 0 0) rs.length
  rintro ⟨t, o⟩ V1 l1 ⟨k, rfl, hk, hin⟩
  dsimp only at hin ⊢
  refine ⟨fun hlt => ?_, fun hge b V3 l3 hb => ?_⟩
  · simp only [decide_eq_true_eq] at hlt
    have hk' : k < rs.length := by omega
    obtain ⟨hb, x, hx, _, hh, hs⟩ := ListAt.get (h.le l1) (t := (k : Int)) (Int.natCast_nonneg _) (z := rnth rs k) (by rw [Int.toNat_natCast]; simp [rnth, List.getD, hk'])
    rw [hl] at hb
    refine ⟨hb, rnth rs k, hx ▸ hh, hs, (small_spec _).mono fun v V2 l2 hv => ⟨_, hv, ⟨by omega, by omega⟩, ?_⟩⟩
    rw [Int.toNat_natCast, i64w (by omega) (by omega)]
    refine ⟨Cells.room hin (by rw [rfilled_length (by omega)]; omega), ⟨k + 1, by omega, by omega, ?_⟩, by omega⟩
    rw [← rfilled_set hk']
    exact Cells.set0 (Cells.imp (P := ratC) (V := V1) (P' := ratC) (V' := V2) (fun _ _ h => h) hin) (by rw [rfilled_length (by omega)]; omega) rfl (ratC_of V2 _ _ _)
  · simp only [decide_eq_false_iff_not] at hge
    have e : k = rs.length := by omega
    subst e
    have e2 : rfilled rs.length rs.length f = rs.map smallR := by
      simp only [rfilled, Nat.sub_self, List.replicate_zero, List.append_nil, f]
      apply List.ext_getElem (by simp)
      intro i g1 g2
      have : i < rs.length := by simpa using g2
      simp [rnth, List.getD, this]
    rw [e2] at hin
    exact ⟨_, rfl, ListAt.of_made hb (Cells.imp (P := ratC) (V := V1) (P' := ratC) (V' := V3) (fun _ _ h => h) hin) (by simp)⟩

theorem CallO.err {P : Program} {f : FuncId} {args : Array Value} {ty : TypeId} {V : View} {e : Value}
    (h : CallO P f args ty V fun n cap l rest _ => n = 0 ∧ cap = 0 ∧ l = [] ∧ rest = [e]) :
    CallV P f args V fun v V' => ∃ r : Sl, v = .tuple #[r.v, e] ∧ NumsAt V' r [] := by
  refine h.known.mono fun v V' _ ⟨b, n, cap, l, rest, V1, hv, l1, hb, hn, hc, hl, hr⟩ => ?_
  subst hc; subst hr; subst hn
  exact ⟨⟨lstA b 0, 0, 0⟩, hv, ListAt.nil⟩

def fitB (zs ws : List Cq) : Bool := lenB ws.length && decide (zs.length = ws.length)

section bad
variable {V : View} {p w : Sl} {zs ws : List Cq}
theorem fits_at (hp : NumsAt V p zs) (hq : NumsAt V w ws) : (lenB w.len && decide (p.len = w.len)) = fitB zs ws := by rw [hp.len, hq.len]; rfl
theorem fits_at' (hp : QsAt V p zs) (hq : QsAt V w ws) : (lenB w.len && decide (p.len = w.len)) = fitB zs ws := by rw [hp.len, hq.len]; rfl

theorem Forward_bad (hp : NumsAt V p zs) (hq : NumsAt V w ws) (hf : fitB zs ws = false) :
    CallV Tryz.prog n_transform_Forward_num_Num_ #[p.v, w.v] V fun v V' => ∃ r : Sl, v = .tuple #[r.v, .int .i64 4] ∧ NumsAt V' r [] := by
  refine CallO.err (ty := TN_num_Num) (transform_Forward_num_Num__vc p w V _ (fun _ _ _ => True) (fun _ _ _ => 0) (fun _ _ _ => True) (fun _ _ _ => 0) ((transform_fits_spec p w).mono fun v V1 l1 hv => ⟨_, hv, fun _ => ⟨rfl, rfl, rfl, rfl⟩, fun h => ?_⟩))
  rw [fits_at hp hq, hf] at h; simp at h
theorem Back_bad (hp : NumsAt V p zs) (hq : NumsAt V w ws) (hf : fitB zs ws = false) :
    CallV Tryz.prog n_transform_Back_num_Num_ #[p.v, w.v] V fun v V' => ∃ r : Sl, v = .tuple #[r.v, .int .i64 4] ∧ NumsAt V' r [] := by
  refine transform_Back_num_Num__vc p w V _ ((transform_fits_spec p w).mono fun v V1 l1 hv => ⟨_, hv, fun _ => ⟨_, rfl, ListAt.nil⟩, fun h => ?_⟩)
  rw [fits_at hp hq, hf] at h; simp at h
theorem Fast_bad (hp : NumsAt V p zs) (hq : NumsAt V w ws) (hf : fitB zs ws = false) :
    CallV Tryz.prog n_transform_Fast_num_Num_ #[p.v, w.v] V fun v V' => ∃ r : Sl, v = .tuple #[r.v, .int .i64 4] ∧ NumsAt V' r [] := by
  refine transform_Fast_num_Num__vc p w V _ ((transform_fits_spec p w).mono fun v V1 l1 hv => ⟨_, hv, fun _ => ⟨_, rfl, ListAt.nil⟩, fun h => ?_⟩)
  rw [fits_at hp hq, hf] at h; simp at h
theorem FastBack_bad (hp : NumsAt V p zs) (hq : NumsAt V w ws) (hf : fitB zs ws = false) :
    CallV Tryz.prog n_transform_FastBack_num_Num_ #[p.v, w.v] V fun v V' => ∃ r : Sl, v = .tuple #[r.v, .int .i64 4] ∧ NumsAt V' r [] := by
  refine transform_FastBack_num_Num__vc p w V _ ((transform_fits_spec p w).mono fun v V1 l1 hv => ⟨_, hv, fun _ => ⟨_, rfl, ListAt.nil⟩, fun h => ?_⟩)
  rw [fits_at hp hq, hf] at h; simp at h
theorem refForward_bad (hp : QsAt V p zs) (hq : QsAt V w ws) (hf : fitB zs ws = false) :
    CallV Tryz.prog n_waveportref07_Forward #[p.v, w.v] V fun v V' => ∃ r : Sl, v = .tuple #[r.v, .int .i64 4] ∧ QsAt V' r [] := by
  refine waveportref07_Forward_vc p w V _ (fun _ _ _ => True) (fun _ _ _ => 0) ((over_spec p w).mono fun v V1 l1 hv => ⟨_, hv, fun _ => ⟨_, rfl, ListAt.nil⟩, fun h => ?_⟩)
  rw [fits_at' hp hq, hf] at h; simp at h
theorem refBack_bad (hp : QsAt V p zs) (hq : QsAt V w ws) (hf : fitB zs ws = false) :
    CallV Tryz.prog n_waveportref07_Back #[p.v, w.v] V fun v V' => ∃ r : Sl, v = .tuple #[r.v, .int .i64 4] ∧ QsAt V' r [] := by
  refine waveportref07_Back_vc p w V _ ((over_spec p w).mono fun v V1 l1 hv => ⟨_, hv, fun _ => ⟨_, rfl, ListAt.nil⟩, fun h => ?_⟩)
  rw [fits_at' hp hq, hf] at h; simp at h
theorem refFast_bad (hp : QsAt V p zs) (hq : QsAt V w ws) (hf : fitB zs ws = false) :
    CallV Tryz.prog n_waveportref07_Fast #[p.v, w.v] V fun v V' => ∃ r : Sl, v = .tuple #[r.v, .int .i64 4] ∧ QsAt V' r [] := by
  refine waveportref07_Fast_vc p w V _ ((over_spec p w).mono fun v V1 l1 hv => ⟨_, hv, fun _ => ⟨_, rfl, ListAt.nil⟩, fun h => ?_⟩)
  rw [fits_at' hp hq, hf] at h; simp at h
theorem refFastBack_bad (hp : QsAt V p zs) (hq : QsAt V w ws) (hf : fitB zs ws = false) :
    CallV Tryz.prog n_waveportref07_FastBack #[p.v, w.v] V fun v V' => ∃ r : Sl, v = .tuple #[r.v, .int .i64 4] ∧ QsAt V' r [] := by
  refine waveportref07_FastBack_vc p w V _ ((over_spec p w).mono fun v V1 l1 hv => ⟨_, hv, fun _ => ⟨_, rfl, ListAt.nil⟩, fun h => ?_⟩)
  rw [fits_at' hp hq, hf] at h; simp at h
end bad

theorem lenB_two {n : Nat} (h : lenB n = true) : ∃ m, m ≤ 6 ∧ n = 2 ^ m := by
  have hmem : n ∈ [1, 2, 4, 8, 16, 32, 64] := by unfold lenB at h; exact List.contains_iff_mem.1 h
  simp only [List.mem_cons, List.not_mem_nil, or_false] at hmem
  rcases hmem with h | h | h | h | h | h | h
  · exact ⟨0, by omega, h⟩
  · exact ⟨1, by omega, h⟩
  · exact ⟨2, by omega, h⟩
  · exact ⟨3, by omega, h⟩
  · exact ⟨4, by omega, h⟩
  · exact ⟨5, by omega, h⟩
  · exact ⟨6, by omega, h⟩

/-- The four pairs of calls, each pair with the same list or error. -/
theorem four_pairs {zs ws : List Cq} (hz : zs.length ≤ 20) (hsz : ∀ i, i < zs.length → (nth zs i).sz ≤ 5) (hsw : ∀ i, i < ws.length → (nth ws i).sz ≤ 5) :
    ∃ (e : Int) (A B C D : List Cq), (∀ L ∈ [A, B, C, D], L.length ≤ 2 ^ 40 ∧ ∀ i, i < L.length → (nth L i).sz ≤ 2 ^ 40) ∧
      ∀ {V : View} {x w y v : Sl}, (NumsAt V x zs → NumsAt V w ws →
        (CallV Tryz.prog n_transform_Forward_num_Num_ #[x.v, w.v] V fun u V' => ∃ r : Sl, u = .tuple #[r.v, .int .i64 e] ∧ NumsAt V' r A) ∧
        (CallV Tryz.prog n_transform_Back_num_Num_ #[x.v, w.v] V fun u V' => ∃ r : Sl, u = .tuple #[r.v, .int .i64 e] ∧ NumsAt V' r B) ∧
        (CallV Tryz.prog n_transform_Fast_num_Num_ #[x.v, w.v] V fun u V' => ∃ r : Sl, u = .tuple #[r.v, .int .i64 e] ∧ NumsAt V' r C) ∧
        (CallV Tryz.prog n_transform_FastBack_num_Num_ #[x.v, w.v] V fun u V' => ∃ r : Sl, u = .tuple #[r.v, .int .i64 e] ∧ NumsAt V' r D)) ∧
       (QsAt V y zs → QsAt V v ws →
        (CallV Tryz.prog n_waveportref07_Forward #[y.v, v.v] V fun u V' => ∃ r : Sl, u = .tuple #[r.v, .int .i64 e] ∧ QsAt V' r A) ∧
        (CallV Tryz.prog n_waveportref07_Back #[y.v, v.v] V fun u V' => ∃ r : Sl, u = .tuple #[r.v, .int .i64 e] ∧ QsAt V' r B) ∧
        (CallV Tryz.prog n_waveportref07_Fast #[y.v, v.v] V fun u V' => ∃ r : Sl, u = .tuple #[r.v, .int .i64 e] ∧ QsAt V' r C) ∧
        (CallV Tryz.prog n_waveportref07_FastBack #[y.v, v.v] V fun u V' => ∃ r : Sl, u = .tuple #[r.v, .int .i64 e] ∧ QsAt V' r D)) := by
  cases hf : fitB zs ws with
  | false =>
    refine ⟨4, [], [], [], [], fun L hL => ?_, fun {V x w y v} => ⟨fun h1 h2 => ⟨Forward_bad h1 h2 hf, Back_bad h1 h2 hf, Fast_bad h1 h2 hf, FastBack_bad h1 h2 hf⟩, fun h1 h2 => ⟨refForward_bad h1 h2 hf, refBack_bad h1 h2 hf, refFast_bad h1 h2 hf, refFastBack_bad h1 h2 hf⟩⟩⟩
    have : L = [] := by simpa using hL
    subst this
    exact ⟨by simp, fun i hi => by simp at hi⟩
  | true =>
    unfold fitB at hf
    simp only [Bool.and_eq_true, decide_eq_true_eq] at hf
    obtain ⟨hl, he⟩ := hf
    obtain ⟨m, hm, h2⟩ := lenB_two hl
    have hzm : zs.length = 2 ^ m := by omega
    have hlz : lenB zs.length = true := by rw [he]; exact hl
    have hT : ∀ i, i < zs.length → (nth ws i).sz ≤ 5 := fun i hi => hsw i (by omega)
    have hSm : ∀ i, i < 2 ^ m → (nth zs i).sz ≤ 5 := fun i hi => hsz i (by omega)
    have hTm : ∀ i, i < 2 ^ m → (nth ws i).sz ≤ 5 := fun i hi => hsw i (by omega)
    have hpow : 2 ^ m ≤ 64 := Nat.pow_le_pow_right (n := 2) (by omega) hm
    have hcl : (conjF ws).length = zs.length := by rw [conjF_length, he]
    have hcT : ∀ i, i < zs.length → (nth (conjF ws) i).sz ≤ 5 := by
      intro i hi; exact conjF_sz ws 5 hsw i (by omega)
    have f1 := fwdF_sz zs ws 5 5 he.symm hsz hT
    have f2 := fwdF_sz zs (conjF ws) 5 5 hcl hsz hcT
    have f3 := stageF_sz m zs ws 5 5 hzm h2 hSm hTm
    have f4 := stageF_sz m zs (conjF ws) 5 5 hzm (by omega) hSm (fun i hi => hcT i (by omega))
    refine ⟨0, fwdF zs ws, sharesF (fwdF zs (conjF ws)), stageF m zs ws, sharesF (stageF m zs (conjF ws)), fun L hL => ?_, fun {V x w y v} =>
      ⟨fun h1 h2' => ⟨Forward_spec 5 5 hlz he.symm h1 h2' hsz hT (by decide), Back_spec 5 5 hlz he.symm h1 h2' hsz hT (by decide), transform_Fast_spec 5 5 hm hzm h2 h1 h2' hSm hTm (by omega), FastBack_spec 5 5 hm hzm h2 h1 h2' hSm hTm (by decide)⟩,
       fun h1 h2' => ⟨refForward_spec 5 5 hlz he.symm h1 h2' hsz hT (by decide), refBack_spec 5 5 hlz he.symm h1 h2' hsz hT (by decide), refFast_spec 5 5 hm hzm h2 h1 h2' hSm hTm (by omega), refFastBack_spec 5 5 hm hzm h2 h1 h2' hSm hTm (by decide)⟩⟩⟩
    simp only [List.mem_cons, List.not_mem_nil, or_false] at hL
    rcases hL with rfl | rfl | rfl | rfl
    · rw [fwdF_length]
      exact ⟨by omega, fun i hi => by have := f1 i hi; omega⟩
    · rw [sharesF_length, fwdF_length]
      refine ⟨by omega, fun i hi => ?_⟩
      have := sharesF_sz (fwdF zs (conjF ws)) (zs.length * (5 + 5 + 2)) (by rw [fwdF_length]; omega) (by rw [fwdF_length]; exact f2) i (by rw [fwdF_length]; exact hi)
      omega
    · rw [stageF_length]
      exact ⟨by omega, fun i hi => by have := f3 i hi; omega⟩
    · rw [sharesF_length, stageF_length]
      refine ⟨by omega, fun i hi => ?_⟩
      have := sharesF_sz (stageF m zs (conjF ws)) (2 ^ m * (5 + 5 + 2)) (by rw [stageF_length]; omega) (by rw [stageF_length]; intro j hj; have := f4 j hj; omega) i (by rw [stageF_length]; exact hi)
      omega

/-- The call of TransformLists returns true. -/
theorem TransformLists_spec {V : View} {s o : Sl} {rs os : List RatV} (h : RatsAt V s rs) (_hr : rs.length < 2 ^ 64) (ho : RatsAt V o os) (_hr2 : os.length < 2 ^ 64) :
    CallV Tryz.prog n_waveportlaw07_TransformLists #[s.v, o.v] V fun v _ => v = .bool true := by
  have hl := h.len
  have hol := ho.len
  refine waveportlaw07_TransformLists_vc s o V _ ⟨fun _ => ⟨fun _ => awake_spec.mono fun v V1 _ hv => ⟨_, hv, rfl⟩, fun h => absurd h (by simp)⟩, fun g1 => ⟨fun _ => awake_spec.mono fun v V1 _ hv => ⟨_, hv, rfl⟩, fun g2 => ?_⟩⟩
  rw [hl] at g1
  rw [hol] at g2
  simp only [decide_eq_false_iff_not] at g1 g2
  have t1 : ∀ r ∈ rs.map smallR, tame r := by intro r hr; obtain ⟨a, _, rfl⟩ := List.mem_map.1 hr; exact smallR_tame a
  have t2 : ∀ r ∈ os.map smallR, tame r := by intro r hr; obtain ⟨a, _, rfl⟩ := List.mem_map.1 hr; exact smallR_tame a
  have z1 : ((rs.map smallR).map ratQ).length ≤ 20 := by simp; omega
  have z2 : ((os.map smallR).map ratQ).length ≤ 20 := by simp; omega
  have sz : ∀ (l : List RatV), (∀ r ∈ l, tame r) → ∀ i, i < (l.map ratQ).length → (nth (l.map ratQ) i).sz ≤ 5 := by
    intro l hl i hi
    have hi : i < l.length := by simpa using hi
    have e : nth (l.map ratQ) i = ratQ l[i] := by simp [nth, List.getD, hi]
    rw [e]; exact tame_sz (hl _ (List.getElem_mem _))
  obtain ⟨e, A, B, C, D, hL, hcalls⟩ := four_pairs z1 (sz _ t1) (sz _ t2)
  have hA := hL A (by simp)
  have hB := hL B (by simp)
  have hC := hL C (by simp)
  have hD := hL D (by simp)
  refine (plain_spec h (by omega)).mono fun v V1 l1 ⟨a, hv, ha⟩ => ⟨a, hv, ?_⟩
  refine (plain_spec (ho.le l1) (by omega)).mono fun v V2 l2 ⟨b, hv, hb⟩ => ⟨b, hv, ?_⟩
  refine (law1_List_spec (ha.le l2) (fun r hr => (t1 r hr).ok) (by simp; omega)).mono fun v V3 l3 ⟨x, hv, hx⟩ => ⟨x, hv, ?_⟩
  refine (law1_List_spec (hb.le l3) (fun r hr => (t2 r hr).ok) (by simp; omega)).mono fun v V4 l4 ⟨w, hv, hw⟩ => ⟨w, hv, ?_⟩
  refine (refList_spec (ha.le (View.le_trans l2 (View.le_trans l3 l4))) (fun r hr => (t1 r hr).ok) (by simp; omega)).mono fun v V5 l5 ⟨y, hv, hy⟩ => ⟨y, hv, ?_⟩
  refine (refList_spec (hb.le (View.le_trans l3 (View.le_trans l4 l5))) (fun r hr => (t2 r hr).ok) (by simp; omega)).mono fun v V6 l6 ⟨u, hv, hu⟩ => ⟨u, hv, ?_⟩
  have X := hx.le (View.le_trans l4 (View.le_trans l5 l6))
  have W := hw.le (View.le_trans l5 l6)
  have Y := hy.le l6
  refine ((hcalls (x := x) (w := w) (y := y) (v := u)).1 X W).1.mono fun v V7 l7 ⟨a1, hv, ha1⟩ => ⟨a1, e, hv, ?_⟩
  refine ((hcalls (x := x) (w := w) (y := y) (v := u)).2 (Y.le l7) (hu.le l7)).1.mono fun v V8 l8 ⟨b1, hv, hb1⟩ => ⟨b1, e, hv, ?_⟩
  refine (answers_spec (ha1.le l8) hb1 hA.1 hA.2).mono fun v V9 l9 hv => ⟨_, hv, fun h => absurd h (by simp), fun _ => ?_⟩
  have L9 := View.le_trans l7 (View.le_trans l8 l9)
  refine ((hcalls (x := x) (w := w) (y := y) (v := u)).1 (X.le L9) (W.le L9)).2.1.mono fun v V10 l10 ⟨a2, hv, ha2⟩ => ⟨a2, e, hv, ?_⟩
  have L10 := View.le_trans L9 l10
  refine ((hcalls (x := x) (w := w) (y := y) (v := u)).2 (Y.le L10) (hu.le L10)).2.1.mono fun v V11 l11 ⟨b2, hv, hb2⟩ => ⟨b2, e, hv, ?_⟩
  refine (answers_spec (ha2.le l11) hb2 hB.1 hB.2).mono fun v V12 l12 hv => ⟨_, hv, fun h => absurd h (by simp), fun _ => ?_⟩
  have L12 := View.le_trans L10 (View.le_trans l11 l12)
  refine ((hcalls (x := x) (w := w) (y := y) (v := u)).1 (X.le L12) (W.le L12)).2.2.1.mono fun v V13 l13 ⟨a3, hv, ha3⟩ => ⟨a3, e, hv, ?_⟩
  have L13 := View.le_trans L12 l13
  refine ((hcalls (x := x) (w := w) (y := y) (v := u)).2 (Y.le L13) (hu.le L13)).2.2.1.mono fun v V14 l14 ⟨b3, hv, hb3⟩ => ⟨b3, e, hv, ?_⟩
  refine (answers_spec (ha3.le l14) hb3 hC.1 hC.2).mono fun v V15 l15 hv => ⟨_, hv, fun h => absurd h (by simp), fun _ => ?_⟩
  have L15 := View.le_trans L13 (View.le_trans l14 l15)
  refine ((hcalls (x := x) (w := w) (y := y) (v := u)).1 (X.le L15) (W.le L15)).2.2.2.mono fun v V16 l16 ⟨a4, hv, ha4⟩ => ⟨a4, e, hv, ?_⟩
  have L16 := View.le_trans L15 l16
  refine ((hcalls (x := x) (w := w) (y := y) (v := u)).2 (Y.le L16) (hu.le L16)).2.2.2.mono fun v V17 l17 ⟨b4, hv, hb4⟩ => ⟨b4, e, hv, ?_⟩
  refine (answers_spec (ha4.le l17) hb4 hD.1 hD.2).mono fun v V18 l18 hv => ⟨_, hv, fun _ => ?_, fun h => absurd h (by simp)⟩
  exact awake_spec.mono fun v V19 _ hv => ⟨_, hv, rfl⟩
end Go.Proofs.YtcapadojlaojkaaGreat
