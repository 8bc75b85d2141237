/- What the inverse transforms come to, and the law that they lead back. -/
import Derived.Test.YtnbjnokgmeamdaaCFor
import Derived.Test.YtnbjnokgmeamdaaFBack
namespace Go.Proofs.Ytnbjnokgmeamdaa
open Go Go.Vc Go.Proofs

theorem ne_of_len {zs : List Cq} (h : 1 ≤ zs.length) : zs ≠ [] := by intro e; subst e; simp at h
theorem lenB_pow : ∀ m ∈ List.range 7, lenB (2 ^ m) = true := by decide

theorem Forward_spec {V : View} {p w : Sl} {zs ws : List Cq} (S T : Nat) (hl : lenB zs.length = true) (hw : ws.length = zs.length) (hp : NumsAt V p zs) (hq : NumsAt V w ws)
    (hS : ∀ i, i < zs.length → (nth zs i).sz ≤ S) (hT : ∀ i, i < zs.length → (nth ws i).sz ≤ T) (hsz : 64 * (S + T + 2) ≤ 2 ^ 39) :
    CallV Try.prog n_transform_Forward_num_Num_ #[p.v, w.v] V fun v V' => ∃ r : Sl, v = .tuple #[r.v, .int .i64 0] ∧ NumsAt V' r (fwdF zs ws) := by
  have := lenB_le hl
  exact CallO.nums1 (ne_of_len (by rw [fwdF_length]; omega)) (Forward_owned S T hl hw hp hq hS hT hsz)

theorem Back_spec {V : View} {p w : Sl} {zs ws : List Cq} (S T : Nat) (hl : lenB zs.length = true) (hw : ws.length = zs.length) (hp : NumsAt V p zs) (hq : NumsAt V w ws)
    (hS : ∀ i, i < zs.length → (nth zs i).sz ≤ S) (hT : ∀ i, i < zs.length → (nth ws i).sz ≤ T) (hsz : 64 * (S + T + 2) ≤ 2 ^ 39) :
    CallV Try.prog n_transform_Back_num_Num_ #[p.v, w.v] V fun v V' => ∃ r : Sl, v = .tuple #[r.v, .int .i64 0] ∧ NumsAt V' r (sharesF (fwdF zs (conjF ws))) := by
  have hb := lenB_le hl
  have hpl := hp.len
  have hwl := hq.len
  refine transform_Back_num_Num__vc p w V _ ((transform_fits_spec p w).mono fun v V1 l1 hv => ⟨_, hv, fun h => ?_, fun _ => ?_⟩)
  · exfalso
    rw [hwl, hw, hl, hpl] at h; simp at h
  refine (conjugates_spec (hq.le l1) (by omega)).mono fun v V2 l2 ⟨r2, hv, h2⟩ => ⟨r2, hv, ?_⟩
  have hcl : (conjF ws).length = zs.length := by rw [conjF_length, hw]
  have hT2 := conjF_sz ws T (by rw [hw]; exact hT)
  rw [hw] at hT2
  have hfs := fwdF_sz zs (conjF ws) S T hcl hS hT2
  refine (Forward_owned S T hl hcl (hp.le (View.le_trans l1 l2)) h2 hS hT2 hsz).mono fun n c l rest V3 l3 ⟨hn, hc, hr, hin⟩ => ⟨0, hr, ?_⟩
  have hfl := fwdF_length zs (conjF ws)
  have hm : zs.length * (S + T + 2) ≤ 64 * (S + T + 2) := Nat.mul_le_mul_right _ hb.2
  have hlne : l ≠ [] := by
    intro e; subst e
    have := Cells.length hin
    rw [hfl] at this
    simp at this; omega
  refine ⟨⟨hlne, ⟨by omega, by omega, trivial⟩, trivial⟩, ?_⟩
  subst hn
  refine (shares_spec (c := c) hin (by omega) (by omega) (by rw [hfl]; intro i hi; have := hfs i hi; omega)).mono fun l2' V4 l4 h4 => ?_
  intro b V5 l5 hb5
  refine ⟨_, rfl, ?_⟩
  rw [hc]
  exact ListAt.of_made hb5 (h4.le l5) (by rw [sharesF_length])

theorem FastBack_spec {V : View} {p w : Sl} {m : Nat} {zs ws : List Cq} (S T : Nat) (hm : m ≤ 6) (hz : zs.length = 2 ^ m) (hw : ws.length = 2 ^ m) (hp : NumsAt V p zs) (hq : NumsAt V w ws)
    (hS : ∀ i, i < 2 ^ m → (nth zs i).sz ≤ S) (hT : ∀ i, i < 2 ^ m → (nth ws i).sz ≤ T) (hsz : 64 * (S + T + 2) ≤ 2 ^ 39) :
    CallV Try.prog n_transform_FastBack_num_Num_ #[p.v, w.v] V fun v V' => ∃ r : Sl, v = .tuple #[r.v, .int .i64 0] ∧ NumsAt V' r (sharesF (stageF m zs (conjF ws))) := by
  have hl : lenB (2 ^ m) = true := lenB_pow m (by simp; omega)
  have hb := lenB_le hl
  have hpl := hp.len
  have hwl := hq.len
  refine transform_FastBack_num_Num__vc p w V _ ((transform_fits_spec p w).mono fun v V1 l1 hv => ⟨_, hv, fun h => ?_, fun _ => ?_⟩)
  · exfalso
    rw [hwl, hw, hl, hpl, hz] at h; simp at h
  refine (conjugates_spec (hq.le l1) (by omega)).mono fun v V2 l2 ⟨r2, hv, h2⟩ => ⟨r2, hv, ?_⟩
  have hcl : (conjF ws).length = 2 ^ m := by rw [conjF_length, hw]
  have hT2 := conjF_sz ws T (by rw [hw]; exact hT)
  rw [hw] at hT2
  have hfs := stageF_sz m zs (conjF ws) S T hz hcl hS hT2
  have hmul : 2 ^ m * (S + T + 2) ≤ 64 * (S + T + 2) := Nat.mul_le_mul_right _ hb.2
  refine (transform_stage_owned m S T hm hz hcl (hp.le (View.le_trans l1 l2)) h2 hS hT2 (by omega)).mono fun n c l rest V3 l3 ⟨hn, hc, hr, hin⟩ => ⟨hr, ?_⟩
  have hfl := stageF_length m zs (conjF ws)
  have hlne : l ≠ [] := by
    intro e; subst e
    have := Cells.length hin
    rw [hfl] at this
    simp at this; omega
  refine ⟨⟨by omega, hlne⟩, ?_⟩
  subst hn
  refine (shares_spec (c := c) hin (by omega) (by omega) (by rw [hfl]; intro i hi; have := hfs i hi; omega)).mono fun l2' V4 l4 h4 => ?_
  intro b V5 l5 hb5
  refine ⟨_, rfl, ?_⟩
  rw [hc]
  exact ListAt.of_made hb5 (h4.le l5) (by rw [sharesF_length])

/-- Two slices of the same numbers are found to be so. -/
theorem are_true {V : View} {p q : Sl} {zs : List Cq} (hp : NumsAt V p zs) (hq : NumsAt V q zs) (hn : zs.length ≤ 2 ^ 32) (hS : ∀ i, i < zs.length → (nth zs i).sz ≤ 2 ^ 40) :
    CallV Try.prog n_waveportlaw07_are #[p.v, .int .i64 0, q.v, .int .i64 0] V fun v V' => v = .bool true := by
  have hpl := hp.len
  have hql := hq.len
  refine waveportlaw07_are_vc p 0 q 0 V _ (fun _ _ _ => True) (fun _ x _ => 0 ≤ x.t25 ∧ x.t25 ≤ zs.length) (fun _ x _ => zs.length - x.t25.toNat) ⟨⟨fun h => absurd h (by simp), fun _ => ⟨fun h => absurd h (by simp), fun _ => ⟨fun h => ?_, fun _ => trivial⟩⟩⟩, ?_⟩
  · exfalso; simp [hpl, hql] at h
  intro _ V1 l1 _
  refine ⟨⟨Int.le_refl 0, Int.natCast_nonneg _⟩, ?_⟩
  rintro ⟨t⟩ V2 l2 ⟨h0, ht⟩
  dsimp only at h0 ht ⊢
  refine ⟨fun hlt => ?_, fun _ => rfl⟩
  simp only [decide_eq_true_eq] at hlt
  have hk : t.toNat < zs.length := by omega
  obtain ⟨hb8, x8, hx8, hs8, hn8⟩ := (hp.le (View.le_trans l1 l2)).get h0 hk
  obtain ⟨hb9, x9, hx9, hs9, hn9⟩ := (hq.le (View.le_trans l1 l2)).get h0 hk
  refine ⟨hb8, x8, hx8, hs8, hb9, x9, hx9, hs9, (Num_Same_spec hn8 hn9 (hS _ hk) (hS _ hk)).mono fun v V3 l3 hv => ⟨_, hv, fun h => ?_, fun _ => ?_⟩⟩
  · exfalso; simp at h
  · have e : IntKind.i64.wrap (t + 1) = t + 1 := i64w (by omega) (by omega)
    rw [e]
    exact ⟨⟨by omega, by omega⟩, by show zs.length - (t + 1).toNat < zs.length - t.toNat; omega⟩
end Go.Proofs.Ytnbjnokgmeamdaa
