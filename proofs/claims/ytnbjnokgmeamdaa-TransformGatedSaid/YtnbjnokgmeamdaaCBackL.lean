/- The call of TransformBack returns true. -/
import Derived.Test.YtnbjnokgmeamdaaCBack
import Derived.Test.YtnbjnokgmeamdaaVFour
namespace Go.Proofs.Ytnbjnokgmeamdaa
open Go Go.Vc Go.Proofs

theorem rootsQ_ones {m : Nat} (hm : m ≤ 2) : rootsQ (2 ^ m) = onesF m := by
  have : m = 0 ∨ m = 1 ∨ m = 2 := by omega
  rcases this with rfl | rfl | rfl <;> simp [rootsQ, onesF, all4, nth, List.range_succ, one1, one2, one4]
theorem onesF_length {m : Nat} (hm : m ≤ 2) : (onesF m).length = 2 ^ m := by
  have : m = 0 ∨ m = 1 ∨ m = 2 := by omega
  rcases this with rfl | rfl | rfl <;> rfl
theorem onesF_sz {m : Nat} (hm : m ≤ 2) : ∀ i, i < 2 ^ m → (nth (onesF m) i).sz ≤ 4 := by
  have : m = 0 ∨ m = 1 ∨ m = 2 := by omega
  rcases this with rfl | rfl | rfl <;> decide +kernel
/-- The exponent of a law's length. -/
def sizeM (p : Int) : Nat := (Int.tmod p 3).toNat
theorem sizeM_le {p : Int} (h : 0 ≤ p) : sizeM p ≤ 2 := by
  unfold sizeM
  rw [Int.tmod_eq_emod_of_nonneg h]; omega
theorem exact_spec2 {V : View} {s : Sl} {rs : List RatV} {p : Int} (h : RatsAt V s rs) (hr : rs.length < 2 ^ 64) (hp : 0 ≤ p) :
    CallV Try.prog n_waveportlaw07_exact #[s.v, .int .u8 p] V fun v V' => ∃ x w : Sl, v = .tuple #[x.v, w.v] ∧ NumsAt V' x (exactQ rs (2 ^ sizeM p)) ∧ NumsAt V' w (onesF (sizeM p)) := by
  have := exact_spec h hr hp
  rw [show sizeN p = 2 ^ sizeM p from rfl, rootsQ_ones (sizeM_le hp)] at this
  exact this

theorem TransformBack_spec {V : View} {s : Sl} {rs : List RatV} {p : Int} (h : RatsAt V s rs) (hr : rs.length < 2 ^ 64) (p0 : 0 ≤ p) (p1 : p ≤ 255) :
    CallV Try.prog n_waveportlaw07_TransformBack #[s.v, .int .u8 p] V fun v V' => v = .bool true := by
  have hm := sizeM_le p0
  have hzl := exactQ_length rs (2 ^ sizeM p)
  have hzs := exactQ_sz rs (2 ^ sizeM p)
  refine waveportlaw07_TransformBack_vc s p V _ ((exact_spec2 h hr p0).mono fun v V1 l1 ⟨x, w, hv, hx, hw⟩ => ⟨x, w, hv, ?_⟩)
  generalize exactQ rs (2 ^ sizeM p) = zs at hx hzl hzs
  generalize sizeM p = m at hm hzl hzs hw
  have hp4 : 2 ^ m ≤ 4 := by
    have : 2 ^ m ≤ 2 ^ 2 := Nat.pow_le_pow_right (by omega) hm
    omega
  have hp1 : 1 ≤ 2 ^ m := Nat.pow_pos (by omega)
  have hol := onesF_length hm
  have hos := onesF_sz hm
  have hlen : lenB (2 ^ m) = true := lenB_pow m (by simp; omega)
  -- the transform
  have hal := stageF_length m zs (onesF m)
  have has := stageF_sz m zs (onesF m) 5 4 hzl hol hzs hos
  have hmul : 2 ^ m * (5 + 4 + 2) ≤ 4 * 11 := Nat.mul_le_mul_right _ hp4
  -- the inverse
  have hcl : (conjF (onesF m)).length = 2 ^ m := by rw [conjF_length, hol]
  have hcs := conjF_sz (onesF m) 4 (by rw [hol]; exact hos)
  rw [hol] at hcs
  have hbs := stageF_sz m zs (conjF (onesF m)) 5 4 hzl hcl hzs hcs
  have hbl := stageF_length m zs (conjF (onesF m))
  have hus := sharesF_sz (stageF m zs (conjF (onesF m))) 44 (by rw [hbl]; omega) (by rw [hbl]; intro i hi; have := hbs i hi; omega)
  rw [hbl] at hus
  have hul : (sharesF (stageF m zs (conjF (onesF m)))).length = 2 ^ m := by rw [sharesF_length, hbl]
  refine (Forward_spec 5 4 (by rw [hzl]; exact hlen) (by rw [hol, hzl]) hx hw (by rw [hzl]; exact hzs) (by rw [hzl]; exact hos) (by decide)).mono fun v V2 l2 ⟨a, hv, ha⟩ => ⟨a, 0, hv, ?_⟩
  rw [fwd_stage hm hzl] at ha
  refine (transform_Fast_spec 5 4 (by omega) hzl hol (hx.le l2) (hw.le l2) hzs hos (by omega)).mono fun v V3 l3 ⟨b, hv, hb⟩ => ⟨b, 0, hv, ?_⟩
  refine (are_true (ha.le l3) hb (by rw [hal]; omega) (by rw [hal]; intro i hi; have := has i hi; omega)).mono fun v V4 l4 hv => ⟨_, hv, fun h => absurd h (by simp), fun _ => ?_⟩
  have L4 : View.le V1 V4 := View.le_trans l2 (View.le_trans l3 l4)
  refine (Back_spec 44 4 (by rw [hal]; exact hlen) (by rw [hol, hal]) (ha.le (View.le_trans l3 l4)) (hw.le L4) (by rw [hal]; intro i hi; have := has i hi; omega) (by rw [hal]; exact hos) (by decide)).mono fun v V5 l5 ⟨c, hv, hc⟩ => ⟨c, 0, hv, ?_⟩
  rw [fwd_stage_conj hm hal, back_fwd hm hzl] at hc
  refine (FastBack_spec 44 4 (by omega) hal hol (hb.le (View.le_trans l4 l5)) (hw.le (View.le_trans L4 l5)) (by intro i hi; have := has i hi; omega) hos (by decide)).mono fun v V6 l6 ⟨d, hv, hd⟩ => ⟨d, 0, hv, ?_⟩
  rw [back_fwd hm hzl] at hd
  have zs40 : ∀ i, i < zs.length → (nth zs i).sz ≤ 2 ^ 40 := by rw [hzl]; intro i hi; have := hzs i hi; omega
  have L6 : View.le V1 V6 := View.le_trans L4 (View.le_trans l5 l6)
  refine (are_true (hc.le l6) (hx.le L6) (by rw [hzl]; omega) zs40).mono fun v V7 l7 hv => ⟨_, hv, fun h => absurd h (by simp), fun _ => ?_⟩
  refine (are_true (hd.le l7) (hx.le (View.le_trans L6 l7)) (by rw [hzl]; omega) zs40).mono fun v V14 l14 hv => ⟨_, hv, fun h => absurd h (by simp), fun _ => ?_⟩
  have L14 : View.le V1 V14 := View.le_trans L6 (View.le_trans l7 l14)
  refine (Back_spec 5 4 (by rw [hzl]; exact hlen) (by rw [hol, hzl]) (hx.le L14) (hw.le L14) (by rw [hzl]; exact hzs) (by rw [hzl]; exact hos) (by decide)).mono fun v V15 l15 ⟨u, hv, hu⟩ => ⟨u, 0, hv, ?_⟩
  rw [fwd_stage_conj hm hzl] at hu
  refine (FastBack_spec 5 4 (by omega) hzl hol (hx.le (View.le_trans L14 l15)) (hw.le (View.le_trans L14 l15)) hzs hos (by decide)).mono fun v V16 l16 ⟨r25, hv, h25⟩ => ⟨r25, 0, hv, ?_⟩
  refine (are_true (hu.le l16) h25 (by rw [hul]; omega) (by rw [hul]; intro i hi; have := hus i hi; omega)).mono fun v V17 l17 hv => ⟨_, hv, fun h => absurd h (by simp), fun _ => ?_⟩
  have L17 : View.le V1 V17 := View.le_trans L14 (View.le_trans l15 (View.le_trans l16 l17))
  refine (Forward_spec 53 4 (by rw [hul]; exact hlen) (by rw [hol, hul]) (hu.le (View.le_trans l16 l17)) (hw.le L17) (by rw [hul]; exact hus) (by rw [hul]; exact hos) (by decide)).mono fun v V18 l18 ⟨e, hv, he⟩ => ⟨e, 0, hv, ?_⟩
  rw [fwd_stage hm hul, fwd_back hm hzl] at he
  refine (are_true he (hx.le (View.le_trans L17 l18)) (by rw [hzl]; omega) zs40).mono fun v V19 l19 hv => ⟨_, hv, fun _ => ?_, fun h => absurd h (by simp)⟩
  exact awake_spec.mono fun v V20 _ hv => ⟨_, hv, rfl⟩
end Go.Proofs.Ytnbjnokgmeamdaa
