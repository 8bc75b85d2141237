/- The call of TransformGated returns true. -/
import Derived.Test.YtnbjnokgmeamdaaCGate
namespace Go.Proofs.Ytnbjnokgmeamdaa
open Go Go.Vc Go.Proofs

theorem gated_all {m : Nat} (hm : m ≤ 2) {zs : List Cq} (hz : zs.length = 2 ^ m) {B : Nat → Bool} (hB : ∀ i, i < 2 ^ m → B i = true) : gatedM m zs B = zs := by
  unfold gatedM
  rw [cutF_all (by rw [backM_length]; exact hB)]
  exact fwd_back hm hz
theorem gated_twice {m : Nat} (hm : m ≤ 2) {zs : List Cq} (B : Nat → Bool) : gatedM m (gatedM m zs B) B = gatedM m zs B := by
  have e : backM m (gatedM m zs B) = cutF (backM m zs) B := back_fwd hm (by rw [cutF_length, backM_length])
  unfold gatedM
  unfold gatedM at e
  rw [e, cutF_twice]
theorem gated_rest {m : Nat} (hm : m ≤ 2) {zs : List Cq} (hz : zs.length = 2 ^ m) {B B' : Nat → Bool} (h : ∀ i, i < 2 ^ m → B' i = !B i) : plusF (gatedM m zs B) (gatedM m zs B') = zs := by
  unfold gatedM
  rw [← stage_plus hm (by rw [cutF_length, backM_length]) (by rw [cutF_length, backM_length]), cutF_rest _ _ _ (by rw [backM_length]; exact h)]
  exact fwd_back hm hz

theorem TransformGated_spec {V : View} {s : Sl} {rs : List RatV} {p q r : Int} (h : RatsAt V s rs) (hr : rs.length < 2 ^ 64) (p0 : 0 ≤ p) (p1 : p ≤ 255) (q0 : 0 ≤ q) (q1 : q ≤ 255) (r0 : 0 ≤ r) (r1 : r ≤ 255) :
    CallV Try.prog n_waveportlaw07_TransformGated #[s.v, .int .u8 p, .int .u8 q, .int .u8 r] V fun v V' => v = .bool true := by
  have hm := sizeM_le p0
  have hzl := exactQ_length rs (2 ^ sizeM p)
  have hzs := exactQ_sz rs (2 ^ sizeM p)
  refine waveportlaw07_TransformGated_vc s p q r V _ ((exact_spec2 h hr p0).mono fun v V1 l1 ⟨x, w, hv, hx, hw⟩ => ⟨x, w, hv, ?_⟩)
  generalize exactQ rs (2 ^ sizeM p) = zs at hx hzl hzs
  generalize sizeM p = m at hm hzl hzs hw
  have hp4 : 2 ^ m ≤ 4 := by
    have : 2 ^ m ≤ 2 ^ 2 := Nat.pow_le_pow_right (by omega) hm
    omega
  have hp1 : 1 ≤ 2 ^ m := Nat.pow_pos (by omega)
  have hlen : lenB (2 ^ m) = true := lenB_pow m (by simp; omega)
  have hxl : x.len = 2 ^ m := by rw [hx.len, hzl]
  rw [hxl]
  generalize hN : 2 ^ m = N at hp4 hp1 hlen hzl hzs
  have w1 : IntKind.i64.wrap ((N : Int) + 1) = (N : Int) + 1 := i64w (by omega) (by omega)
  have w2 : IntKind.i64.wrap q = q := i64w (by omega) (by omega)
  have w3 : IntKind.i64.wrap r = r := i64w (by omega) (by omega)
  obtain ⟨f, hf, hfN⟩ : ∃ f : Nat, Int.tmod q (N : Int) = f ∧ f < N := by
    rw [Int.tmod_eq_emod_of_nonneg q0]
    have g1 := Int.emod_nonneg q (b := (N : Int)) (by omega)
    have g2 := Int.emod_lt_of_pos q (b := (N : Int)) (by omega)
    exact ⟨(q % (N : Int)).toNat, by omega, by omega⟩
  obtain ⟨c, hc, hcN⟩ : ∃ c : Nat, Int.tmod r ((N : Int) + 1) = c ∧ c ≤ N := by
    rw [Int.tmod_eq_emod_of_nonneg r0]
    have g1 := Int.emod_nonneg r (b := (N : Int) + 1) (by omega)
    have g2 := Int.emod_lt_of_pos r (b := (N : Int) + 1) (by omega)
    exact ⟨(r % ((N : Int) + 1)).toNat, by omega, by omega⟩
  rw [w1, w2, w3, hf, hc]
  refine ⟨by omega, by omega, ?_⟩
  have hg : gateOk (GateV.mk (f : Int) (c : Int)) (N : Int) := ⟨by simp, by simpa using hfN, by simp, by simpa using hcN⟩
  refine (transform_Rest_ok (g := GateV.mk (f : Int) (c : Int)) (n := N) hlen hg).mono fun v V2 l2 hv => ⟨GateV.mk ((((f + c) % N : Nat) : Int)) (((N - c : Nat) : Int)), 0, ?_, ?_⟩
  · rw [hv]
    have e1 : ((f : Int) + (c : Int)) % (N : Int) = (((f + c) % N : Nat) : Int) := rfl
    have e2 : (N : Int) - (c : Int) = ((N - c : Nat) : Int) := by omega
    rw [e1, e2]
  have hg2 : gateOk (GateV.mk ((((f + c) % N : Nat) : Int)) (((N - c : Nat) : Int))) (N : Int) := by
    have : (f + c) % N < N := Nat.mod_lt _ (by omega)
    refine ⟨Int.natCast_nonneg _, ?_, Int.natCast_nonneg _, ?_⟩ <;> simp only [] <;> omega
  have hg3 : gateOk (GateV.mk 0 (N : Int)) (N : Int) := ⟨Int.le_refl 0, by simp only []; omega, Int.natCast_nonneg _, Int.le_refl _⟩
  subst hN
  have hgl : ∀ B, (gatedM m zs B).length = 2 ^ m := fun B => by unfold gatedM; rw [stageF_length]
  have hgs : ∀ B, ∀ i, i < 2 ^ m → (nth (gatedM m zs B) i).sz ≤ 236 := fun B => gatedM_sz hm hzl B 5 hzs
  refine (Gated_spec 5 hm hzl (hx.le l2) (hw.le l2) hzs (by decide) hg).mono fun v V3 l3 ⟨a, hv, ha⟩ => ⟨a, 0, hv, ?_⟩
  have L3 : View.le V1 V3 := View.le_trans l2 l3
  refine (Gated_spec 5 hm hzl (hx.le L3) (hw.le L3) hzs (by decide) hg2).mono fun v V4 l4 ⟨b, hv, hb⟩ => ⟨b, 0, hv, ?_⟩
  have L4 : View.le V1 V4 := View.le_trans L3 l4
  refine (Gated_spec 5 hm hzl (hx.le L4) (hw.le L4) hzs (by decide) hg3).mono fun v V5 l5 ⟨k, hv, hk⟩ => ⟨k, 0, hv, ?_⟩
  have L5 : View.le V1 V5 := View.le_trans L4 l5
  simp only [Int.toNat_natCast, Int.toNat_zero] at ha hb hk
  rw [gated_all hm hzl (fun i hi => inG_all (by omega) hi)] at hk
  have hal : a.len = 2 ^ m := by rw [ha.len, hgl]
  have hbl : b.len = 2 ^ m := by rw [hb.len, hgl]
  have zs40 : ∀ i, i < zs.length → (nth zs i).sz ≤ 2 ^ 40 := by rw [hzl]; intro i hi; have := hzs i hi; omega
  refine ⟨fun h => absurd h (by simp), fun _ => ⟨fun h => absurd h (by simp), fun _ => ⟨fun h => absurd h (by simp), fun _ => ⟨fun h => ?_, fun _ => ⟨fun h => ?_, fun _ => ?_⟩⟩⟩⟩⟩
  · exfalso; simp [hal] at h
  · exfalso; simp [hbl] at h
  refine (Gated_spec 236 hm (hgl _) (ha.le (View.le_trans l4 l5)) (hw.le L5) (hgs _) (by decide) hg).mono fun v V6 l6 ⟨d, hv, hd⟩ => ⟨d, 0, hv, ?_⟩
  simp only [Int.toNat_natCast] at hd
  rw [gated_twice hm] at hd
  refine (are_true (hk.le l6) (hx.le (View.le_trans L5 l6)) (by rw [hzl]; omega) zs40).mono fun v V7 l7 hv => ⟨_, hv, fun _ => ?_, fun h => absurd h (by simp)⟩
  have L7 : View.le V5 V7 := View.le_trans l6 l7
  refine (are_true (hd.le l7) (ha.le (View.le_trans l4 (View.le_trans l5 L7))) (by rw [hgl]; omega) (by rw [hgl]; intro i hi; have := hgs (inG (2 ^ m) f c) i hi; omega)).mono fun v V8 l8 hv => ⟨_, hv, fun _ => ?_, fun h => absurd h (by simp)⟩
  have L8 : View.le V5 V8 := View.le_trans L7 l8
  refine (plus_spec (ha.le (View.le_trans l4 (View.le_trans l5 L8))) (hb.le (View.le_trans l5 L8)) (by rw [hgl]; omega) (by rw [hgl]; omega) (by rw [hgl]; intro i hi; have := hgs (inG (2 ^ m) f c) i hi; omega) (by rw [hgl]; intro i hi; have := hgs (inG (2 ^ m) ((f + c) % 2 ^ m) (2 ^ m - c)) i hi; omega)).mono fun v V9 l9 ⟨t, hv, ht⟩ => ⟨t, hv, ?_⟩
  rw [gated_rest hm hzl (fun i hi => inG_rest hfN hcN hi)] at ht
  refine (are_true ht (hx.le (View.le_trans L5 (View.le_trans L8 l9))) (by rw [hzl]; omega) zs40).mono fun v V10 l10 hv => ⟨_, hv, fun _ => ?_, fun h => absurd h (by simp)⟩
  exact awake_spec.mono fun v V11 _ hv => ⟨_, hv, rfl⟩
end Go.Proofs.Ytnbjnokgmeamdaa
