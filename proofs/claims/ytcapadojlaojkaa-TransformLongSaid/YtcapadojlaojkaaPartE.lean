/- Part of the proof; it has the parts CLng. -/
import Derived.Test.YtcapadojlaojkaaPartD
namespace Go.Proofs.Ytcapadojlaojkaa
open Go Go.Vc Go.Proofs

theorem listed_spec {V : View} (p q : Sl) : CallV Try.prog n_transform_listed_num_Num_num_Num_ #[p.v, q.v] V fun v _ => v = .bool (decide (p.len = q.len ∧ p.len ≤ 64)) := by
  refine transform_listed_num_Num_num_Num__vc p q V _ ⟨fun h => ?_, fun h => ?_⟩
  · have h : p.len = q.len := by have : (p.len : Int) = q.len := (by simpa using h); omega
    congr 1
    by_cases c : p.len ≤ 64
    · rw [decide_eq_true (show ((p.len : Int) ≤ 64) by omega), decide_eq_true ⟨h, c⟩]
    · rw [decide_eq_false (show ¬ ((p.len : Int) ≤ 64) by omega), decide_eq_false (fun x => c x.2)]
  · have h : ¬ p.len = q.len := by
      intro e; rw [e] at h; simp at h
    rw [decide_eq_false (fun x => h x.1)]

/-- Do two lists fit, and are they not too long? -/
abbrev fit (a b : List Cq) : Prop := a.length = b.length ∧ a.length ≤ 64

theorem Times_spec {V : View} {p q : Sl} {a b : List Cq} {S : Nat} (hp : NumsAt V p a) (hq : NumsAt V q b) (hf : fit a b) (hA : ∀ i, i < a.length → (nth a i).sz ≤ S) (hB : ∀ i, i < b.length → (nth b i).sz ≤ S) (hS : S ≤ 2 ^ 30) :
    CallV Try.prog n_transform_Times_num_Num_ #[p.v, q.v] V fun v V' => ∃ r : Sl, v = .tuple #[r.v, .int .i64 0] ∧ NumsAt V' r (timesF a b) := by
  have hpl := hp.len
  have hql := hq.len
  obtain ⟨h1, h2⟩ := hf
  refine transform_Times_num_Num__vc p q V _ (fun _ x V' => ∃ k : Nat, x.t17 = (k : Int) ∧ k ≤ a.length ∧ OptIn numC V' x.o14 a.length (seqF (fun i => nth a i * nth b i) k)) (fun _ x _ => (a.length - x.t17).toNat)
    ((listed_spec p q).mono fun v V1 l1 hv => ⟨_, hv, fun h => ?_, fun _ => ?_⟩)
  · rw [hpl, hql, decide_eq_true ⟨h1, h2⟩] at h; simp at h
  rw [hpl, hql, Int.toNat_natCast]
  refine ⟨⟨by omega, by omega, by omega, by omega⟩, ⟨0, rfl, by omega, OptIn.start numC V1 _ _⟩, ?_⟩
  rintro ⟨t, o⟩ V2 l2 ⟨k, rfl, hk, ho⟩
  dsimp only at ho ⊢
  refine ⟨fun hlt => ?_, fun hge b' V3 l3 hb => ?_⟩
  · simp only [decide_eq_true_eq] at hlt
    have hk' : k < a.length := by omega
    obtain ⟨hb3, x3, hx3, hs3, hn3⟩ := (hp.le (View.le_trans l1 l2)).get (t := (k : Int)) (by omega) (by rw [Int.toNat_natCast]; exact hk')
    obtain ⟨hb4, x4, hx4, hs4, hn4⟩ := (hq.le (View.le_trans l1 l2)).get (t := (k : Int)) (by omega) (by rw [Int.toNat_natCast]; omega)
    rw [hpl] at hb3
    rw [hql] at hb4
    rw [Int.toNat_natCast] at hn3 hn4
    have s1 := hA k hk'
    have s2 := hB k (by omega)
    refine ⟨hb3, x3, hx3, hs3, hb4, x4, hx4, hs4, (Num_Mul_spec hn3 hn4 (by omega) (by omega)).mono fun v V3 l3 ⟨r, hv, hr⟩ => ⟨r, hv, ⟨by omega, by omega⟩, ?_⟩⟩
    rw [Int.toNat_natCast, i64w (by omega) (by omega)]
    have ho3 := ho.le (numC.le l3)
    exact ⟨ho3.room hk', ⟨k + 1, by omega, by omega, ho3.next hk' (q_len5 r) ⟨r, rfl, hr⟩⟩, by omega⟩
  · simp only [decide_eq_false_iff_not] at hge
    have hk' : k = a.length := by omega
    subst hk'
    exact ⟨_, rfl, ListAt.of_made (zs := timesF a b) hb ((ho.le (numC.le l3)).all fun p hp => seqF_all hp) (by simp [timesF])⟩
theorem Times_bad {V : View} {p q : Sl} {a b : List Cq} (hp : NumsAt V p a) (hq : NumsAt V q b) (hf : ¬ fit a b) :
    CallV Try.prog n_transform_Times_num_Num_ #[p.v, q.v] V fun v V' => ∃ r : Sl, v = .tuple #[r.v, .int .i64 4] ∧ NumsAt V' r [] := by
  refine transform_Times_num_Num__vc p q V _ (fun _ _ _ => True) (fun _ _ _ => 0) ((listed_spec p q).mono fun v V1 l1 hv => ⟨_, hv, fun _ => ⟨_, rfl, ListAt.nil⟩, fun h => ?_⟩)
  rw [hp.len, hq.len, decide_eq_false hf] at h; simp at h

theorem Weigh_spec {V : View} {p q : Sl} {a b : List Cq} {S : Nat} (hp : NumsAt V p a) (hq : NumsAt V q b) (hf : fit a b) (hA : ∀ i, i < a.length → (nth a i).sz ≤ S) (hB : ∀ i, i < b.length → (nth b i).sz ≤ S) (hS : S ≤ 2 ^ 30) :
    CallV Try.prog n_transform_Weigh_num_Num_ #[p.v, q.v] V fun v V' => ∃ r : Sl, v = .tuple #[r.v, .int .i64 0] ∧ NumsAt V' r (timesF a b) := by
  have hpl := hp.len
  have hql := hq.len
  obtain ⟨h1, h2⟩ := hf
  refine transform_Weigh_num_Num__vc p q V _ (fun _ x V' => ∃ k : Nat, x.t17 = (k : Int) ∧ k ≤ a.length ∧ OptIn numC V' x.o14 a.length (seqF (fun i => nth a i * nth b i) k)) (fun _ x _ => (a.length - x.t17).toNat)
    ((listed_spec p q).mono fun v V1 l1 hv => ⟨_, hv, fun h => ?_, fun _ => ?_⟩)
  · rw [hpl, hql, decide_eq_true ⟨h1, h2⟩] at h; simp at h
  rw [hpl, hql, Int.toNat_natCast]
  refine ⟨⟨by omega, by omega, by omega, by omega⟩, ⟨0, rfl, by omega, OptIn.start numC V1 _ _⟩, ?_⟩
  rintro ⟨t, o⟩ V2 l2 ⟨k, rfl, hk, ho⟩
  dsimp only at ho ⊢
  refine ⟨fun hlt => ?_, fun hge b' V3 l3 hb => ?_⟩
  · simp only [decide_eq_true_eq] at hlt
    have hk' : k < a.length := by omega
    obtain ⟨hb3, x3, hx3, hs3, hn3⟩ := (hp.le (View.le_trans l1 l2)).get (t := (k : Int)) (by omega) (by rw [Int.toNat_natCast]; exact hk')
    obtain ⟨hb4, x4, hx4, hs4, hn4⟩ := (hq.le (View.le_trans l1 l2)).get (t := (k : Int)) (by omega) (by rw [Int.toNat_natCast]; omega)
    rw [hpl] at hb3
    rw [hql] at hb4
    rw [Int.toNat_natCast] at hn3 hn4
    have s1 := hA k hk'
    have s2 := hB k (by omega)
    refine ⟨hb3, x3, hx3, hs3, hb3, x3, hx3, hs3, hb4, x4, hx4, hs4, (Num_Of_spec hn4).mono fun v V3 l3 ⟨r2, hv, hr2⟩ => ⟨r2, hv, ?_⟩⟩
    refine (Num_Mul_spec (hn3.le l3) hr2 (by omega) (by omega)).mono fun v V4 l4 ⟨r, hv, hr⟩ => ⟨r, hv, ⟨by omega, by omega⟩, ?_⟩
    rw [Int.toNat_natCast, i64w (by omega) (by omega)]
    have ho3 := ho.le (numC.le (View.le_trans l3 l4))
    exact ⟨ho3.room hk', ⟨k + 1, by omega, by omega, ho3.next hk' (q_len5 r) ⟨r, rfl, hr⟩⟩, by omega⟩
  · simp only [decide_eq_false_iff_not] at hge
    have hk' : k = a.length := by omega
    subst hk'
    exact ⟨_, rfl, ListAt.of_made (zs := timesF a b) hb ((ho.le (numC.le l3)).all fun p hp => seqF_all hp) (by simp [timesF])⟩
theorem Weigh_bad {V : View} {p q : Sl} {a b : List Cq} (hp : NumsAt V p a) (hq : NumsAt V q b) (hf : ¬ fit a b) :
    CallV Try.prog n_transform_Weigh_num_Num_ #[p.v, q.v] V fun v V' => ∃ r : Sl, v = .tuple #[r.v, .int .i64 4] ∧ NumsAt V' r [] := by
  refine transform_Weigh_num_Num__vc p q V _ (fun _ _ _ => True) (fun _ _ _ => 0) ((listed_spec p q).mono fun v V1 l1 hv => ⟨_, hv, fun _ => ⟨_, rfl, ListAt.nil⟩, fun h => ?_⟩)
  rw [hp.len, hq.len, decide_eq_false hf] at h; simp at h

theorem refTimes_spec {V : View} {p q : Sl} {a b : List Cq} {S : Nat} (hp : QsAt V p a) (hq : QsAt V q b) (hf : fit a b) (hA : ∀ i, i < a.length → (nth a i).sz ≤ S) (hB : ∀ i, i < b.length → (nth b i).sz ≤ S) (hS : S ≤ 2 ^ 30) :
    CallV Try.prog n_waveportref07_Times #[p.v, q.v] V fun v V' => ∃ r : Sl, v = .tuple #[r.v, .int .i64 0] ∧ QsAt V' r (timesF a b) := by
  have hpl := hp.len
  have hql := hq.len
  obtain ⟨h1, h2⟩ := hf
  refine waveportref07_Times_vc p q V _ (fun _ x V' => ∃ k : Nat, x.t7 = (k : Int) ∧ k ≤ a.length ∧ OptIn qC V' x.o14 a.length (seqF (fun i => nth a i * nth b i) k)) (fun _ x _ => (a.length - x.t7).toNat)
    ((pair_spec p q).mono fun v V1 l1 hv => ⟨_, hv, fun h => ?_, fun _ => ?_⟩)
  · rw [hpl, hql, decide_eq_true ⟨h1, h2⟩] at h; simp at h
  rw [hpl, hql, Int.toNat_natCast]
  refine ⟨⟨by omega, by omega, by omega, by omega⟩, ⟨0, rfl, by omega, OptIn.start qC V1 _ _⟩, ?_⟩
  rintro ⟨t, o⟩ V2 l2 ⟨k, rfl, hk, ho⟩
  dsimp only at ho ⊢
  refine ⟨fun hlt => ?_, fun hge b' V3 l3 hb => ?_⟩
  · simp only [decide_eq_true_eq] at hlt
    have hk' : k < a.length := by omega
    obtain ⟨hb3, x3, hx3, hs3, hn3⟩ := (hp.le (View.le_trans l1 l2)).get (t := (k : Int)) (by omega) (by rw [Int.toNat_natCast]; exact hk')
    obtain ⟨hb4, x4, hx4, hs4, hn4⟩ := (hq.le (View.le_trans l1 l2)).get (t := (k : Int)) (by omega) (by rw [Int.toNat_natCast]; omega)
    rw [hpl] at hb3
    rw [hql] at hb4
    rw [Int.toNat_natCast] at hn3 hn4
    have s1 := hA k hk'
    have s2 := hB k (by omega)
    refine ⟨hb3, x3, hx3, hs3, hb4, x4, hx4, hs4, (ref1_Mul_spec hn3 hn4 (by omega) (by omega)).mono fun v V3 l3 ⟨r, hv, hr⟩ => ⟨r, hv, ⟨by omega, by omega⟩, ?_⟩⟩
    rw [Int.toNat_natCast, i64w (by omega) (by omega)]
    have ho3 := ho.le (qC.le l3)
    exact ⟨ho3.room hk', ⟨k + 1, by omega, by omega, ho3.next hk' (q_len5 r) ⟨r, rfl, hr⟩⟩, by omega⟩
  · simp only [decide_eq_false_iff_not] at hge
    have hk' : k = a.length := by omega
    subst hk'
    exact ⟨_, rfl, QsAt.of_made (zs := timesF a b) hb ((ho.le (qC.le l3)).all fun p hp => seqF_all hp) (by simp [timesF])⟩
theorem refTimes_bad {V : View} {p q : Sl} {a b : List Cq} (hp : QsAt V p a) (hq : QsAt V q b) (hf : ¬ fit a b) :
    CallV Try.prog n_waveportref07_Times #[p.v, q.v] V fun v V' => ∃ r : Sl, v = .tuple #[r.v, .int .i64 4] ∧ QsAt V' r [] := by
  refine waveportref07_Times_vc p q V _ (fun _ _ _ => True) (fun _ _ _ => 0) ((pair_spec p q).mono fun v V1 l1 hv => ⟨_, hv, fun _ => ⟨_, rfl, ListAt.nil⟩, fun h => ?_⟩)
  rw [hp.len, hq.len, decide_eq_false hf] at h; simp at h

theorem Convolve_spec {V : View} {p q : Sl} {a b : List Cq} {S : Nat} (hp : NumsAt V p a) (hq : NumsAt V q b) (hf : fit a b) (hA : ∀ i, i < a.length → (nth a i).sz ≤ S) (hB : ∀ i, i < a.length → (nth b i).sz ≤ S) (hS : S ≤ 2 ^ 30) :
    CallV Try.prog n_transform_Convolve_num_Num_ #[p.v, q.v] V fun v V' => ∃ r : Sl, v = .tuple #[r.v, .int .i64 0] ∧ NumsAt V' r (convF a b) := by
  have hpl := hp.len
  have hql := hq.len
  obtain ⟨h1, h2⟩ := hf
  refine transform_Convolve_num_Num__vc p q V _ (fun _ x V' => ∃ k : Nat, x.t21 = (k : Int) ∧ k ≤ a.length ∧ OptIn numC V' x.o18 a.length (seqF (fun j => convS a b j (a.length - 1)) k)) (fun _ x _ => (a.length - x.t21).toNat)
    (fun c x V' => ∃ k i : Nat, c.t21 = (k : Int) ∧ x.t10 = (i : Int) ∧ 1 ≤ i ∧ i ≤ a.length ∧ NumAt V' x.o9 (convS a b k (i - 1)) ∧ OptIn numC V' x.o18 a.length (seqF (fun j => convS a b j (a.length - 1)) k)) (fun _ x _ => (a.length - x.t10).toNat)
    ((listed_spec p q).mono fun v V1 l1 hv => ⟨_, hv, fun h => ?_, fun _ => ?_⟩)
  · rw [hpl, hql, decide_eq_true ⟨h1, h2⟩] at h; simp at h
  rw [hpl, hql, Int.toNat_natCast]
  refine ⟨⟨by omega, by omega, by omega, by omega⟩, ⟨0, rfl, by omega, OptIn.start numC V1 _ _⟩, ?_⟩
  rintro ⟨t, o⟩ V2 l2 ⟨k, rfl, hk, ho⟩
  dsimp only at ho ⊢
  have hp2 := hp.le (View.le_trans l1 l2)
  have hq2 := hq.le (View.le_trans l1 l2)
  refine ⟨fun hlt => ?_, fun hge b' V3 l3 hb => ?_⟩
  · simp only [decide_eq_true_eq] at hlt
    have hk' : k < a.length := by omega
    obtain ⟨hb3, x3, hx3, hs3, hn3⟩ := hp2.get (t := 0) (by omega) (by show 0 < _; omega)
    obtain ⟨hb4, x4, hx4, hs4, hn4⟩ := hq2.get (t := (k : Int)) (by omega) (by rw [Int.toNat_natCast]; omega)
    rw [hpl] at hb3
    rw [hql] at hb4
    rw [Int.toNat_natCast] at hn4
    have hn3 : NumAt V2 x3 (nth a 0) := hn3
    have s1 := hA 0 (by omega)
    have s2 := hB k hk'
    refine ⟨hb3, x3, hx3, hs3, hb4, x4, hx4, hs4, (Num_Mul_spec hn3 hn4 (by omega) (by omega)).mono fun v V3 l3 ⟨r, hv, hr⟩ => ⟨r, hv, ⟨k, 1, rfl, rfl, by omega, by omega, hr, ho.le (numC.le l3)⟩, ?_⟩⟩
    rintro ⟨ti, sm, o5⟩ V4 l4 ⟨k', i, hkk, rfl, hi1, hi, hsm, ho5⟩
    obtain rfl : k' = k := by have : (k : Int) = (k' : Int) := hkk; omega
    dsimp only at hsm ho5 ⊢
    refine ⟨fun hlt2 => ?_, fun hge2 => ?_⟩
    · simp only [decide_eq_true_eq] at hlt2
      have hi' : i < a.length := by omega
      have hq5 : (k' + a.length - i) % a.length < a.length := Nat.mod_lt _ (by omega)
      rw [convIdx hi' hk' (by omega)]
      obtain ⟨hb5, x5, hx5, hs5, hn5⟩ := (hp2.le (View.le_trans l3 l4)).get (t := (i : Int)) (by omega) (by rw [Int.toNat_natCast]; exact hi')
      obtain ⟨hb6, x6, hx6, hs6, hn6⟩ := (hq2.le (View.le_trans l3 l4)).get (t := (((k' + a.length - i) % a.length : Nat) : Int)) (by omega) (by rw [Int.toNat_natCast]; omega)
      rw [hpl] at hb5
      rw [hql] at hb6
      rw [Int.toNat_natCast] at hn5 hn6
      have s5 := hA i hi'
      have s6 := hB _ hq5
      have s7 := Cq.sz_mul (nth a i) (nth b ((k' + a.length - i) % a.length))
      have s8 := convS_sz h1.symm hA hB hk' (i - 1) (by omega)
      have s9 : (i - 1 + 1) * (2 * S + 2) ≤ 64 * (2 * S + 2) := Nat.mul_le_mul_right _ (by omega)
      refine ⟨hb5, x5, hx5, hs5, by omega, hb6, x6, hx6, hs6, (Num_Mul_spec hn5 hn6 (by omega) (by omega)).mono fun v V5 l5 ⟨r5, hv, hr5⟩ => ⟨r5, hv, ?_⟩⟩
      refine (Num_Add_spec (hsm.le l5) hr5 (by omega) (by omega)).mono fun v V6 l6 ⟨r6, hv, hr6⟩ => ⟨r6, hv, ?_⟩
      rw [i64w (by omega) (by omega)]
      refine ⟨⟨k', i + 1, rfl, by omega, by omega, by omega, ?_, ho5.le (numC.le (View.le_trans l5 l6))⟩, by omega⟩
      have e : i + 1 - 1 = (i - 1) + 1 := by omega
      have e2 : i - 1 + 1 = i := by omega
      rw [e, convS, e2]; exact hr6
    · simp only [decide_eq_false_iff_not] at hge2
      obtain rfl : i = a.length := by omega
      rw [Int.toNat_natCast, i64w (by omega) (by omega)]
      exact ⟨⟨by omega, by omega⟩, ho5.room hk', ⟨k' + 1, by omega, by omega, ho5.next hk' (q_len5 sm) ⟨sm, rfl, hsm⟩⟩, by omega⟩
  · simp only [decide_eq_false_iff_not] at hge
    have hk' : k = a.length := by omega
    subst hk'
    exact ⟨_, rfl, ListAt.of_made (zs := convF a b) hb ((ho.le (numC.le l3)).all fun p hp => seqF_all hp) (by simp [convF])⟩
theorem Convolve_bad {V : View} {p q : Sl} {a b : List Cq} (hp : NumsAt V p a) (hq : NumsAt V q b) (hf : ¬ fit a b) :
    CallV Try.prog n_transform_Convolve_num_Num_ #[p.v, q.v] V fun v V' => ∃ r : Sl, v = .tuple #[r.v, .int .i64 4] ∧ NumsAt V' r [] := by
  refine transform_Convolve_num_Num__vc p q V _ (fun _ _ _ => True) (fun _ _ _ => 0) (fun _ _ _ => True) (fun _ _ _ => 0) ((listed_spec p q).mono fun v V1 l1 hv => ⟨_, hv, fun _ => ⟨_, rfl, ListAt.nil⟩, fun h => ?_⟩)
  rw [hp.len, hq.len, decide_eq_false hf] at h; simp at h

theorem refConvolve_spec {V : View} {p q : Sl} {a b : List Cq} {S : Nat} (hp : QsAt V p a) (hq : QsAt V q b) (hf : fit a b) (hA : ∀ i, i < a.length → (nth a i).sz ≤ S) (hB : ∀ i, i < a.length → (nth b i).sz ≤ S) (hS : S ≤ 2 ^ 30) :
    CallV Try.prog n_waveportref07_Convolve #[p.v, q.v] V fun v V' => ∃ r : Sl, v = .tuple #[r.v, .int .i64 0] ∧ QsAt V' r (convF a b) := by
  have hpl := hp.len
  have hql := hq.len
  obtain ⟨h1, h2⟩ := hf
  refine waveportref07_Convolve_vc p q V _ (fun _ x V' => ∃ k : Nat, x.t7 = (k : Int) ∧ k ≤ a.length ∧ OptIn qC V' x.o15 a.length (seqF (fun j => convS a b j (a.length - 1)) k)) (fun _ x _ => (a.length - x.t7).toNat)
    (fun c x V' => ∃ k i : Nat, c.t7 = (k : Int) ∧ x.t8 = (i : Int) ∧ 1 ≤ i ∧ i ≤ a.length ∧ OptIn qC V' x.o15 a.length (fun j => if j = k then some (convS a b k (i - 1)) else seqF (fun j => convS a b j (a.length - 1)) k j)) (fun _ x _ => (a.length - x.t8).toNat)
    ((pair_spec p q).mono fun v V1 l1 hv => ⟨_, hv, fun h => ?_, fun _ => ?_⟩)
  · rw [hpl, hql, decide_eq_true ⟨h1, h2⟩] at h; simp at h
  rw [hpl, hql, Int.toNat_natCast]
  refine ⟨⟨by omega, by omega, by omega, by omega⟩, ⟨0, rfl, by omega, OptIn.start qC V1 _ _⟩, ?_⟩
  rintro ⟨t, o⟩ V2 l2 ⟨k, rfl, hk, ho⟩
  dsimp only at ho ⊢
  have hp2 := hp.le (View.le_trans l1 l2)
  have hq2 := hq.le (View.le_trans l1 l2)
  refine ⟨fun hlt => ?_, fun hge b' V3 l3 hb => ?_⟩
  · simp only [decide_eq_true_eq] at hlt
    have hk' : k < a.length := by omega
    obtain ⟨hb3, x3, hx3, hs3, hn3⟩ := hp2.get (t := 0) (by omega) (by show 0 < _; omega)
    obtain ⟨hb4, x4, hx4, hs4, hn4⟩ := hq2.get (t := (k : Int)) (by omega) (by rw [Int.toNat_natCast]; omega)
    rw [hpl] at hb3
    rw [hql] at hb4
    rw [Int.toNat_natCast] at hn4
    have hn3 : QAt V2 x3 (nth a 0) := hn3
    have s1 := hA 0 (by omega)
    have s2 := hB k hk'
    rw [Int.toNat_natCast]
    rw [Int.toNat_natCast] at hx4 hs4
    refine ⟨hb3, x3, hx3, hs3, hb4, x4, hx4, hs4, (ref1_Mul_spec hn3 hn4 (by omega) (by omega)).mono fun v V3 l3 ⟨r, hv, hr⟩ => ⟨r, hv, ⟨by omega, by omega⟩, (ho.le (qC.le l3)).room hk', ⟨k, 1, rfl, rfl, by omega, by omega, (ho.le (qC.le l3)).set hk' (q_len5 r) ⟨r, rfl, hr⟩⟩, ?_⟩⟩
    rintro ⟨ti, o5⟩ V4 l4 ⟨k', i, hkk, rfl, hi1, hi, ho5⟩
    obtain rfl : k' = k := by have : (k : Int) = (k' : Int) := hkk; omega
    dsimp only at ho5 ⊢
    refine ⟨fun hlt2 => ?_, fun hge2 => ?_⟩
    · simp only [decide_eq_true_eq] at hlt2
      have hi' : i < a.length := by omega
      have hq5 : (k' + a.length - i) % a.length < a.length := Nat.mod_lt _ (by omega)
      have ew : IntKind.i64.wrap (0 - (i : Int)) = -(i : Int) := by rw [i64w (by omega) (by omega)]; omega
      rw [ew]
      obtain ⟨hb5, x5, hx5, hs5, hn5⟩ := (hp2.le (View.le_trans l3 l4)).get (t := (i : Int)) (by omega) (by rw [Int.toNat_natCast]; exact hi')
      rw [hpl] at hb5
      rw [Int.toNat_natCast] at hn5
      obtain ⟨w, ⟨xw, rfl, hxw⟩, hwl, hw⟩ := ho5.get hk' (if_pos rfl)
      have s5 := hA i hi'
      have s6 := hB _ hq5
      have s7 := Cq.sz_mul (nth a i) (nth b ((k' + a.length - i) % a.length))
      have s8 := convS_sz h1.symm hA hB hk' (i - 1) (by omega)
      have s9 : (i - 1 + 1) * (2 * S + 2) ≤ 64 * (2 * S + 2) := Nat.mul_le_mul_right _ (by omega)
      refine ⟨⟨by omega, by omega⟩, xw, hw, hb5, x5, hx5, hs5, (Moved_spec (-(i : Int)) hk' (by omega)).mono fun v V5 l5 hv => ⟨_, hv, ?_⟩⟩
      rw [modB_neg hi' hk']
      obtain ⟨hb6, x6, hx6, hs6, hn6⟩ := (hq2.le (View.le_trans l3 (View.le_trans l4 l5))).get (t := (((k' + a.length - i) % a.length : Nat) : Int)) (by omega) (by rw [Int.toNat_natCast]; omega)
      rw [hql] at hb6
      rw [Int.toNat_natCast] at hn6
      refine ⟨hb6, x6, hx6, hs6, (ref1_Mul_spec (hn5.le l5) hn6 (by omega) (by omega)).mono fun v V6 l6 ⟨r5, hv, hr5⟩ => ⟨r5, hv, ?_⟩⟩
      refine (ref1_Add_spec (hxw.le (View.le_trans l5 l6)) hr5 (by omega) (by omega)).mono fun v V7 l7 ⟨r6, hv, hr6⟩ => ⟨r6, hv, ⟨by omega, by omega⟩, ?_⟩
      rw [i64w (by omega) (by omega)]
      have ho7 := ho5.le (qC.le (View.le_trans l5 (View.le_trans l6 l7)))
      refine ⟨ho7.room hk', ⟨k', i + 1, rfl, by omega, by omega, by omega, (ho7.set hk' (q_len5 r6) (z := convS a b k' (i + 1 - 1)) ⟨r6, rfl, ?_⟩).congr fun j _ => ?_⟩, by omega⟩
      · have e : i + 1 - 1 = (i - 1) + 1 := by omega
        have e2 : i - 1 + 1 = i := by omega
        rw [e, convS, e2]; exact hr6
      · by_cases c : j = k'
        · rw [if_pos c, if_pos c]
        · rw [if_neg c, if_neg c, if_neg c]
    · simp only [decide_eq_false_iff_not] at hge2
      obtain rfl : i = a.length := by omega
      rw [i64w (by omega) (by omega)]
      exact ⟨⟨k' + 1, by omega, by omega, ho5.congr fun j _ => seqF_step (fun j => convS a b j (a.length - 1)) k' j⟩, by omega⟩
  · simp only [decide_eq_false_iff_not] at hge
    have hk' : k = a.length := by omega
    subst hk'
    exact ⟨_, rfl, QsAt.of_made (zs := convF a b) hb ((ho.le (qC.le l3)).all fun p hp => seqF_all hp) (by simp [convF])⟩
theorem refConvolve_bad {V : View} {p q : Sl} {a b : List Cq} (hp : QsAt V p a) (hq : QsAt V q b) (hf : ¬ fit a b) :
    CallV Try.prog n_waveportref07_Convolve #[p.v, q.v] V fun v V' => ∃ r : Sl, v = .tuple #[r.v, .int .i64 4] ∧ QsAt V' r [] := by
  refine waveportref07_Convolve_vc p q V _ (fun _ _ _ => True) (fun _ _ _ => 0) (fun _ _ _ => True) (fun _ _ _ => 0) ((pair_spec p q).mono fun v V1 l1 hv => ⟨_, hv, fun _ => ⟨_, rfl, ListAt.nil⟩, fun h => ?_⟩)
  rw [hp.len, hq.len, decide_eq_false hf] at h; simp at h

theorem Steps_long {V : View} {s : Sl} {zs : List Cq} (h : NumsAt V s zs) (hn : 64 < zs.length) :
    CallV Try.prog n_transform_Steps_num_Num_ #[s.v] V fun v V' => ∃ r : Sl, v = .tuple #[r.v, .int .i64 4] ∧ NumsAt V' r [] := by
  have hl := h.len
  refine transform_Steps_num_Num__vc s V _ (fun _ _ _ => True) (fun _ _ _ => 0) ⟨fun _ => ⟨_, rfl, ListAt.nil⟩, fun h => ?_⟩
  rw [hl] at h; simp at h; omega

theorem refSteps_spec {V : View} {s : Sl} {zs : List Cq} (S : Nat) (h : QsAt V s zs) (hn : zs.length ≤ 64) (hS : ∀ i, i < zs.length → (nth zs i).sz ≤ S) (hsz : S ≤ 2 ^ 30) :
    CallV Try.prog n_waveportref07_Steps #[s.v] V fun v V' => ∃ r : Sl, v = .tuple #[r.v, .int .i64 0] ∧ QsAt V' r (stepsF zs) := by
  have hl := h.len
  refine waveportref07_Steps_vc s V _ (fun _ x V' => ∃ k : Nat, x.t5 = (k : Int) ∧ k ≤ zs.length ∧ OptIn qC V' x.o12 zs.length (seqF (psum zs) k)) (fun _ x _ => (zs.length - x.t5).toNat)
    ((pair_spec s s).mono fun v V1 l1 hv => ⟨_, hv, fun h => ?_, fun _ => ?_⟩)
  · rw [hl, decide_eq_true ⟨rfl, hn⟩] at h; simp at h
  rw [hl, Int.toNat_natCast]
  refine ⟨⟨by omega, by omega, by omega, by omega⟩, ⟨0, rfl, by omega, OptIn.start qC V1 _ _⟩, ?_⟩
  rintro ⟨t, o⟩ V2 l2 ⟨k, rfl, hk, ho⟩
  dsimp only at ho ⊢
  refine ⟨fun hlt => ?_, fun hge b' V3 l3 hb => ?_⟩
  · simp only [decide_eq_true_eq] at hlt
    have hk' : k < zs.length := by omega
    obtain ⟨hb3, x3, hx3, hs3, hn3⟩ := (h.le (View.le_trans l1 l2)).get (t := (k : Int)) (by omega) (by rw [Int.toNat_natCast]; exact hk')
    rw [hl] at hb3
    rw [Int.toNat_natCast] at hn3
    rw [Int.toNat_natCast]
    rw [Int.toNat_natCast] at hx3 hs3
    have t1 := ho.set hk' (q_len5 x3) (z := nth zs k) ⟨x3, rfl, hn3⟩
    rw [i64w (n := (k : Int) + 1) (by omega) (by omega)]
    refine ⟨hb3, x3, hx3, hs3, ⟨by omega, by omega⟩, ho.room hk', fun hp => ?_, fun hp => ?_⟩
    · simp only [gt_iff_lt, decide_eq_true_eq] at hp
      obtain ⟨j, rfl⟩ : ∃ j, k = j + 1 := ⟨k - 1, by omega⟩
      have ew : IntKind.i64.wrap (((j + 1 : Nat) : Int) - 1) = (j : Int) := by rw [i64w (by omega) (by omega)]; omega
      rw [ew, Int.toNat_natCast]
      obtain ⟨w, ⟨xw, rfl, hxw⟩, hwl, hw⟩ := t1.get (i := j) (by omega) (z := psum zs j) (by rw [if_neg (by omega)]; exact if_pos (by omega))
      have s5 := hS _ hk'
      have s6 := psum_sz zs S hS j (by omega)
      have s7 : (j + 1) * (S + 1) ≤ 64 * (S + 1) := Nat.mul_le_mul_right _ (by omega)
      refine ⟨⟨by omega, by omega⟩, xw, hw, hb3, x3, hx3, hs3, (ref1_Add_spec hxw hn3 (by omega) (by omega)).mono fun v V3 l3 ⟨r, hv, hr⟩ => ⟨r, hv, ⟨by omega, by omega⟩, (t1.le (qC.le l3)).room hk', ⟨j + 1 + 1, by omega, by omega, ((t1.le (qC.le l3)).set hk' (q_len5 r) (z := psum zs (j + 1)) ⟨r, rfl, hr⟩).congr fun p _ => ?_⟩, by omega⟩⟩
      rw [← seqF_step (psum zs) (j + 1) p]
      by_cases c : p = j + 1
      · rw [if_pos c, if_pos c]
      · rw [if_neg c, if_neg c, if_neg c]
    · simp only [gt_iff_lt, decide_eq_false_iff_not] at hp
      obtain rfl : k = 0 := by omega
      exact ⟨⟨0 + 1, by omega, by omega, t1.congr fun p _ => seqF_step (psum zs) 0 p⟩, by omega⟩
  · simp only [decide_eq_false_iff_not] at hge
    have hk' : k = zs.length := by omega
    subst hk'
    exact ⟨_, rfl, QsAt.of_made (zs := stepsF zs) hb ((ho.le (qC.le l3)).all fun p hp => seqF_all hp) (by simp [stepsF])⟩
theorem refSteps_long {V : View} {s : Sl} {zs : List Cq} (h : QsAt V s zs) (hn : 64 < zs.length) :
    CallV Try.prog n_waveportref07_Steps #[s.v] V fun v V' => ∃ r : Sl, v = .tuple #[r.v, .int .i64 4] ∧ QsAt V' r [] := by
  have hl := h.len
  refine waveportref07_Steps_vc s V _ (fun _ _ _ => True) (fun _ _ _ => 0) ((pair_spec s s).mono fun v V1 l1 hv => ⟨_, hv, fun _ => ⟨_, rfl, ListAt.nil⟩, fun h => ?_⟩)
  rw [hl, decide_eq_false (fun x => by omega)] at h; simp at h

theorem Energy_spec {V : View} {s : Sl} {zs : List Cq} {S : Nat} (h : NumsAt V s zs) (hn : zs.length ≤ 64) (hS : ∀ i, i < zs.length → (nth zs i).sz ≤ S) (hsz : S ≤ 2 ^ 30) :
    CallV Try.prog n_transform_Energy_num_Num_ #[s.v] V fun v V' => ∃ r : NumV, v = .tuple #[r.val, .int .i64 0] ∧ NumAt V' r (energyI zs zs.length) := by
  have hl := h.len
  refine transform_Energy_num_Num__vc s V _ (fun _ x V' => ∃ k : Nat, x.t18 = (k : Int) ∧ k ≤ zs.length ∧ NumAt V' x.o4 (energyI zs k)) (fun _ x _ => (zs.length - x.t18).toNat) ?_
  rw [hl]
  refine ⟨fun h => absurd h (by simp; omega), fun _ => ⟨fun h0 => ?_, fun h0 => ⟨⟨0, rfl, by omega, NumAt.zero V⟩, ?_⟩⟩⟩
  · have h0 : zs.length = 0 := by have : (zs.length : Int) = 0 := (by simpa using h0); omega
    refine (of_spec (p := 0) (q := 1) (by decide) (by decide) (by decide) (by decide) (by decide)).mono fun v V3 l3 ⟨r2, hv, h2⟩ => ⟨r2, hv, r2, rfl, ?_⟩
    rw [zeroQ_eq] at h2
    unfold energyI
    rw [if_pos h0]; exact h2
  rintro ⟨t, o2, o⟩ V2 l2 ⟨k, rfl, hk, ho⟩
  dsimp only at ho ⊢
  refine ⟨fun hlt => ?_, fun hge => ?_⟩
  · simp only [decide_eq_true_eq] at hlt
    have hk' : k < zs.length := by omega
    obtain ⟨hb3, x3, hx3, hs3, hn3⟩ := (h.le l2).get (t := (k : Int)) (by omega) (by rw [Int.toNat_natCast]; exact hk')
    rw [hl] at hb3
    rw [Int.toNat_natCast] at hn3
    have s1 := hS k hk'
    have s2 := Cq.sz_conj (nth zs k)
    have s3 := Cq.sz_mul (nth zs k) (nth zs k).conj
    have s4 := energyI_sz hS hk
    have s5 : (k + 1) * (2 * S + 2) ≤ 65 * (2 * S + 2) := Nat.mul_le_mul_right _ (by omega)
    rw [i64w (by omega) (by omega)]
    refine ⟨hb3, x3, hx3, hs3, (Num_Conj_spec hn3).mono fun v V3 l3 ⟨r3, hv, hr3⟩ => ⟨r3, hv, ?_⟩⟩
    refine (Num_Mul_spec (hn3.le l3) hr3 (by omega) (by omega)).mono fun v V4 l4 ⟨r4, hv, hr4⟩ => ⟨r4, hv, fun h0 => ?_, fun h0 => ?_⟩
    · have h0 : k = 0 := by have : (k : Int) = 0 := (by simpa using h0); omega
      subst h0
      exact ⟨⟨0 + 1, by omega, by omega, hr4⟩, by omega⟩
    · have h0 : k ≠ 0 := by intro e; subst e; simp at h0
      refine (Num_Add_spec (ho.le (View.le_trans l3 l4)) hr4 (by omega) (by omega)).mono fun v V5 l5 ⟨r5, hv, hr5⟩ => ⟨r5, hv, ⟨k + 1, by omega, by omega, ?_⟩, by omega⟩
      rw [← energyI_step zs h0]; exact hr5
  · simp only [decide_eq_false_iff_not] at hge
    have hk' : k = zs.length := by omega
    subst hk'
    exact ⟨o, rfl, ho⟩
theorem Energy_long {V : View} {s : Sl} {zs : List Cq} (h : NumsAt V s zs) (hn : 64 < zs.length) :
    CallV Try.prog n_transform_Energy_num_Num_ #[s.v] V fun v V' => ∃ r : NumV, v = .tuple #[r.val, .int .i64 4] ∧ NumAt V' r Cq.zero := by
  have hl := h.len
  refine transform_Energy_num_Num__vc s V _ (fun _ _ _ => True) (fun _ _ _ => 0) ⟨fun _ => ⟨_, rfl, NumAt.zero V⟩, fun h => ?_⟩
  rw [hl] at h; simp at h; omega
theorem whole_zero {V : View} : CallV Try.prog n_ref1_Whole #[.int .i64 0] V fun v V1 => ∃ r1 : NumV, v = r1.val ∧ QAt V1 r1 Cq.zero := by
  have ez : (⟨((0 : Int) : Rat), 0⟩ : Cq) = Cq.zero := Cq.ext' (by simp [Cq.zero]) rfl
  exact (ref1_Whole_spec (n := 0) (by omega) (by omega)).mono fun v V1 _ ⟨r, hv, hr⟩ => ⟨r, hv, by rw [← ez]; exact hr⟩
theorem refEnergy_spec {V : View} {s : Sl} {zs : List Cq} {S : Nat} (h : QsAt V s zs) (hn : zs.length ≤ 64) (hS : ∀ i, i < zs.length → (nth zs i).sz ≤ S) (hsz : S ≤ 2 ^ 30) :
    CallV Try.prog n_waveportref07_Energy #[s.v] V fun v V' => ∃ r : NumV, v = .tuple #[r.val, .int .i64 0] ∧ QAt V' r (energyI zs zs.length) := by
  have hl := h.len
  refine waveportref07_Energy_vc s V _ (fun _ x V' => ∃ k : Nat, x.t5 = (k : Int) ∧ k ≤ zs.length ∧ QAt V' x.o4 (energyI zs k)) (fun _ x _ => (zs.length - x.t5).toNat)
    ((pair_spec s s).mono fun v V1 l1 hv => ⟨_, hv, fun h => ?_, fun _ => ?_⟩)
  · rw [hl, decide_eq_true ⟨rfl, hn⟩] at h; simp at h
  rw [hl]
  refine whole_zero.mono fun v V2 l2 ⟨r3, hv, hr3⟩ => ⟨r3, hv, ⟨0, rfl, by omega, hr3⟩, ?_⟩
  rintro ⟨t, o2, o⟩ V4 l4 ⟨k, rfl, hk, ho⟩
  dsimp only at ho ⊢
  refine ⟨fun hlt => ?_, fun hge => ?_⟩
  · simp only [decide_eq_true_eq] at hlt
    have hk' : k < zs.length := by omega
    obtain ⟨hb3, x3, hx3, hs3, hn3⟩ := (h.le (View.le_trans l1 (View.le_trans l2 l4))).get (t := (k : Int)) (by omega) (by rw [Int.toNat_natCast]; exact hk')
    rw [hl] at hb3
    rw [Int.toNat_natCast] at hn3
    have s1 := hS k hk'
    have s2 := Cq.sz_conj (nth zs k)
    have s3 := Cq.sz_mul (nth zs k) (nth zs k).conj
    have s4 := energyI_sz hS hk
    have s5 : (k + 1) * (2 * S + 2) ≤ 65 * (2 * S + 2) := Nat.mul_le_mul_right _ (by omega)
    rw [i64w (by omega) (by omega)]
    refine ⟨hb3, x3, hx3, hs3, hb3, x3, hx3, hs3, (ref1_Conj_spec hn3).mono fun v V3 l3 ⟨r3, hv, hr3⟩ => ⟨r3, hv, ?_⟩⟩
    refine (ref1_Mul_spec (hn3.le l3) hr3 (by omega) (by omega)).mono fun v V4 l4 ⟨r4, hv, hr4⟩ => ⟨r4, hv, fun h0 => ?_, fun h0 => ?_⟩
    · have h0 : k = 0 := by have : (k : Int) = 0 := (by simpa using h0); omega
      subst h0
      exact ⟨⟨0 + 1, by omega, by omega, hr4⟩, by omega⟩
    · have h0 : k ≠ 0 := by intro e; subst e; simp at h0
      refine (ref1_Add_spec (ho.le (View.le_trans l3 l4)) hr4 (by omega) (by omega)).mono fun v V5 l5 ⟨r5, hv, hr5⟩ => ⟨r5, hv, ⟨k + 1, by omega, by omega, ?_⟩, by omega⟩
      rw [← energyI_step zs h0]; exact hr5
  · simp only [decide_eq_false_iff_not] at hge
    have hk' : k = zs.length := by omega
    subst hk'
    exact ⟨o, rfl, ho⟩
theorem refEnergy_long {V : View} {s : Sl} {zs : List Cq} (h : QsAt V s zs) (hn : 64 < zs.length) :
    CallV Try.prog n_waveportref07_Energy #[s.v] V fun v V' => ∃ r : NumV, v = .tuple #[r.val, .int .i64 4] ∧ QAt V' r Cq.zero := by
  have hl := h.len
  refine waveportref07_Energy_vc s V _ (fun _ _ _ => True) (fun _ _ _ => 0) ((pair_spec s s).mono fun v V1 l1 hv => ⟨_, hv, fun _ => ?_, fun h => ?_⟩)
  · exact whole_zero.mono fun v V2 _ ⟨r, hv, hr⟩ => ⟨r, hv, r, rfl, hr⟩
  · rw [hl, decide_eq_false (fun x => by omega)] at h; simp at h

/-- One call or the other: what fits, and the error. -/
theorem CallV.cases2 {P : Program} {f : FuncId} {args : Array Value} {V : View} {α : Type} {val : α → Value} {Q : View → α → List Cq → Prop} {c : Prop} [Decidable c] {zs : List Cq}
    (h1 : c → CallV P f args V fun v V' => ∃ r : α, v = .tuple #[val r, .int .i64 0] ∧ Q V' r zs) (h2 : ¬ c → CallV P f args V fun v V' => ∃ r : α, v = .tuple #[val r, .int .i64 4] ∧ Q V' r []) :
    CallV P f args V fun v V' => ∃ r : α, v = .tuple #[val r, .int .i64 (if c then 0 else 4)] ∧ Q V' r (if c then zs else []) := by
  by_cases hc : c
  · simp only [if_pos hc]; exact h1 hc
  · simp only [if_neg hc]; exact h2 hc
theorem CallV.cases2n {P : Program} {f : FuncId} {args : Array Value} {V : View} {Q : View → NumV → Cq → Prop} {c : Prop} [Decidable c] {z : Cq}
    (h1 : c → CallV P f args V fun v V' => ∃ r : NumV, v = .tuple #[r.val, .int .i64 0] ∧ Q V' r z) (h2 : ¬ c → CallV P f args V fun v V' => ∃ r : NumV, v = .tuple #[r.val, .int .i64 4] ∧ Q V' r Cq.zero) :
    CallV P f args V fun v V' => ∃ r : NumV, v = .tuple #[r.val, .int .i64 (if c then 0 else 4)] ∧ Q V' r (if c then z else Cq.zero) := by
  by_cases hc : c
  · simp only [if_pos hc]; exact h1 hc
  · simp only [if_neg hc]; exact h2 hc
/-- The sizes of a list that may be missing. -/
theorem sz_ite {c : Prop} [Decidable c] {zs : List Cq} (hl : c → zs.length ≤ 64) (hs : c → ∀ i, i < zs.length → (nth zs i).sz ≤ 2 ^ 40) :
    (if c then zs else []).length ≤ 2 ^ 40 ∧ ∀ i, i < (if c then zs else []).length → (nth (if c then zs else []) i).sz ≤ 2 ^ 40 := by
  by_cases hc : c
  · simp only [if_pos hc]
    exact ⟨by have := hl hc; omega, hs hc⟩
  · simp only [if_neg hc]
    exact ⟨by simp, fun i hi => by simp at hi⟩

/-- The call of TransformLong returns true. -/
theorem TransformLong_spec {V : View} {s t : Sl} {rs os : List RatV} {p q : Int} (h : RatsAt V s rs) (hr : rs.length < 2 ^ 64) (h' : RatsAt V t os) (hr' : os.length < 2 ^ 64) (p0 : 0 ≤ p) (p1 : p ≤ 255) (q0 : 0 ≤ q) (q1 : q ≤ 255) :
    CallV Try.prog n_waveportlaw07_TransformLong #[s.v, t.v, .int .u8 p, .int .u8 q] V fun v _ => v = .bool true := by
  refine waveportlaw07_TransformLong_vc s t p q V _ ⟨fun _ => ⟨fun _ => awake_spec.mono fun v V1 _ hv => ⟨_, hv, rfl⟩, fun h => absurd h (by simp)⟩, fun _ => ⟨fun _ => awake_spec.mono fun v V1 _ hv => ⟨_, hv, rfl⟩, fun _ => ?_⟩⟩
  have cnt : ∀ {p : Int}, 0 ≤ p → p ≤ 255 → ∃ n : Nat, Int.tmod (IntKind.i64.wrap p) 71 = (n : Int) ∧ n ≤ 70 := by
    intro p p0 p1
    rw [i64w (by omega) (by omega), Int.tmod_eq_emod_of_nonneg p0]
    exact ⟨(p % 71).toNat, by omega, by omega⟩
  obtain ⟨n, hn, hn70⟩ := cnt p0 p1
  obtain ⟨m, hm, hm70⟩ := cnt q0 q1
  rw [hn, hm]
  refine (repeated_spec h hr (by omega)).mono fun v V1 l1 ⟨a, hv, ha⟩ => ⟨a, hv, ?_⟩
  refine (repeated_spec (h'.le l1) hr' (by omega)).mono fun v V2 l2 ⟨b, hv, hb⟩ => ⟨b, hv, ?_⟩
  have hok : ∀ r ∈ repeatedR rs n, ratI r := fun r hr => (repeatedR_tame rs _ r hr).ok
  have hok' : ∀ r ∈ repeatedR os m, ratI r := fun r hr => (repeatedR_tame os _ r hr).ok
  have hal : (repeatedR rs n).length = n := by simp [repeatedR]
  have hbl : (repeatedR os m).length = m := by simp [repeatedR]
  have hxl := exactQ_length rs n
  have hxs := exactQ_sz rs n
  have hyl := exactQ_length os m
  have hys := exactQ_sz os m
  refine (law1_List_spec (ha.le l2) hok (by omega)).mono fun v V3 l3 ⟨x, hv, hx⟩ => ⟨x, hv, ?_⟩
  refine (law1_List_spec (hb.le l3) hok' (by omega)).mono fun v V4 l4 ⟨w, hv, hw⟩ => ⟨w, hv, ?_⟩
  refine (refList_spec (ha.le (View.le_trans l2 (View.le_trans l3 l4))) hok (by omega)).mono fun v V5 l5 ⟨y, hv, hy⟩ => ⟨y, hv, ?_⟩
  refine (refList_spec (hb.le (View.le_trans l3 (View.le_trans l4 l5))) hok' (by omega)).mono fun v V6 l6 ⟨z, hv, hz⟩ => ⟨z, hv, ?_⟩
  have hx : NumsAt V3 x (exactQ rs n) := hx
  have hw : NumsAt V4 w (exactQ os m) := hw
  have hy : QsAt V5 y (exactQ rs n) := hy
  have hz : QsAt V6 z (exactQ os m) := hz
  generalize exactQ rs n = X at *
  generalize exactQ os m = Y at *
  replace hx := hx.le (View.le_trans l4 (View.le_trans l5 l6))
  replace hw := hw.le (View.le_trans l5 l6)
  replace hy := hy.le l6
  have hXs : ∀ i, i < X.length → (nth X i).sz ≤ 5 := by rw [hxl]; exact hxs
  have hYs : ∀ i, i < Y.length → (nth Y i).sz ≤ 5 := by rw [hyl]; exact hys
  clear h h' ha hb hok hok' hxs hys
  refine (CallV.cases2 (val := Sl.v) (Q := NumsAt) (c := fit X Y) (fun hf => Times_spec (S := 5) hx hw hf hXs hYs (by omega)) (fun hf => Times_bad hx hw hf)).mono fun v V7 l7 ⟨r7, hv, h7⟩ => ⟨r7, _, hv, ?_⟩
  refine (CallV.cases2 (val := Sl.v) (Q := QsAt) (c := fit X Y) (fun hf => refTimes_spec (S := 5) (hy.le l7) (hz.le l7) hf hXs hYs (by omega)) (fun hf => refTimes_bad (hy.le l7) (hz.le l7) hf)).mono fun v V8 l8 ⟨r8, hv, h8⟩ => ⟨r8, _, hv, ?_⟩
  obtain ⟨c1, c2⟩ := sz_ite (c := fit X Y) (zs := timesF X Y) (fun hf => by rw [timesF_length]; exact hf.2) (fun hf i hi => by
    rw [timesF_length] at hi
    rw [timesF_nth hi]
    have s1 := hXs i hi
    have s2 := hYs i (by have := hf.1; omega)
    have := Cq.sz_mul (nth X i) (nth Y i)
    omega)
  refine (answers_spec (h7.le l8) h8 c1 c2).mono fun v V9 l9 hv => ⟨_, hv, fun h => absurd h (by simp), fun _ => ?_⟩
  have L9 : View.le V6 V9 := View.le_trans l7 (View.le_trans l8 l9)
  replace hx := hx.le L9; replace hw := hw.le L9; replace hy := hy.le L9; replace hz := hz.le L9
  refine (CallV.cases2 (val := Sl.v) (Q := NumsAt) (c := fit X Y) (fun hf => Weigh_spec (S := 5) hx hw hf hXs hYs (by omega)) (fun hf => Weigh_bad hx hw hf)).mono fun v V10 l10 ⟨r10, hv, h10⟩ => ⟨r10, _, hv, ?_⟩
  refine (answers_spec h10 (h8.le (View.le_trans l9 l10)) c1 c2).mono fun v V11 l11 hv => ⟨_, hv, fun h => absurd h (by simp), fun _ => ?_⟩
  have L11 : View.le V9 V11 := View.le_trans l10 l11
  replace hx := hx.le L11; replace hw := hw.le L11; replace hy := hy.le L11; replace hz := hz.le L11
  have hYs' : fit X Y → ∀ i, i < X.length → (nth Y i).sz ≤ 5 := fun hf i hi => hYs i (by have := hf.1; omega)
  refine (CallV.cases2 (val := Sl.v) (Q := NumsAt) (c := fit X Y) (fun hf => Convolve_spec (S := 5) hx hw hf hXs (hYs' hf) (by omega)) (fun hf => Convolve_bad hx hw hf)).mono fun v V12 l12 ⟨r12, hv, h12⟩ => ⟨r12, _, hv, ?_⟩
  refine (CallV.cases2 (val := Sl.v) (Q := QsAt) (c := fit X Y) (fun hf => refConvolve_spec (S := 5) (hy.le l12) (hz.le l12) hf hXs (hYs' hf) (by omega)) (fun hf => refConvolve_bad (hy.le l12) (hz.le l12) hf)).mono fun v V13 l13 ⟨r13, hv, h13⟩ => ⟨r13, _, hv, ?_⟩
  obtain ⟨d1, d2⟩ := sz_ite (c := fit X Y) (zs := convF X Y) (fun hf => by rw [convF_length]; exact hf.2) (fun hf i hi => by
    rw [convF_length] at hi
    have e : nth (convF X Y) i = convS X Y i (X.length - 1) := nth_map hi _
    rw [e]
    have := convS_sz hf.1.symm hXs (hYs' hf) hi (X.length - 1) (by omega)
    have h64 := hf.2
    have s9 : (X.length - 1 + 1) * (2 * 5 + 2) ≤ 64 * (2 * 5 + 2) := Nat.mul_le_mul_right _ (by omega)
    omega)
  refine (answers_spec (h12.le l13) h13 d1 d2).mono fun v V14 l14 hv => ⟨_, hv, fun h => absurd h (by simp), fun _ => ?_⟩
  have L14 : View.le V11 V14 := View.le_trans l12 (View.le_trans l13 l14)
  replace hx := hx.le L14; replace hy := hy.le L14
  refine (CallV.cases2 (val := Sl.v) (Q := NumsAt) (c := X.length ≤ 64) (fun hf => Steps_spec 5 hx hf hXs (by omega)) (fun hf => Steps_long hx (by omega))).mono fun v V15 l15 ⟨r15, hv, h15⟩ => ⟨r15, _, hv, ?_⟩
  refine (CallV.cases2 (val := Sl.v) (Q := QsAt) (c := X.length ≤ 64) (fun hf => refSteps_spec 5 (hy.le l15) hf hXs (by omega)) (fun hf => refSteps_long (hy.le l15) (by omega))).mono fun v V16 l16 ⟨r16, hv, h16⟩ => ⟨r16, _, hv, ?_⟩
  obtain ⟨e1, e2⟩ := sz_ite (c := X.length ≤ 64) (zs := stepsF X) (fun hf => by simp [stepsF]; exact hf) (fun hf i hi => by
    have hi : i < X.length := by simpa [stepsF] using hi
    have e : nth (stepsF X) i = psum X i := nth_map hi _
    rw [e]
    have := psum_sz X 5 hXs i hi
    have s9 : (i + 1) * (5 + 1) ≤ 64 * (5 + 1) := Nat.mul_le_mul_right _ (by omega)
    omega)
  refine (answers_spec (h15.le l16) h16 e1 e2).mono fun v V17 l17 hv => ⟨_, hv, fun h => absurd h (by simp), fun _ => ?_⟩
  have L17 : View.le V14 V17 := View.le_trans l15 (View.le_trans l16 l17)
  replace hx := hx.le L17; replace hy := hy.le L17
  refine (CallV.cases2n (Q := NumAt) (c := X.length ≤ 64) (fun hf => Energy_spec (S := 5) hx hf hXs (by omega)) (fun hf => Energy_long hx (by omega))).mono fun v V18 l18 ⟨r18, hv, h18⟩ => ⟨r18, _, hv, ?_⟩
  refine (CallV.cases2n (Q := QAt) (c := X.length ≤ 64) (fun hf => refEnergy_spec (S := 5) (hy.le l18) hf hXs (by omega)) (fun hf => refEnergy_long (hy.le l18) (by omega))).mono fun v V19 l19 ⟨r19, hv, h19⟩ => ⟨r19, _, hv, fun _ => ?_, fun h => absurd h (by simp)⟩
  have z1 : (if X.length ≤ 64 then energyI X X.length else Cq.zero).sz ≤ 2 ^ 40 := by
    split
    · have := energyI_sz hXs (Nat.le_refl X.length)
      have s9 : (X.length + 1) * (2 * 5 + 2) ≤ 65 * (2 * 5 + 2) := Nat.mul_le_mul_right _ (by omega)
      omega
    · have := Cq.sz_zero; omega
  refine (law1_Is_spec (h18.le l19) h19 z1).mono fun v V20 l20 hv => ⟨_, hv, fun _ => ?_, fun h => absurd h (by simp)⟩
  exact awake_spec.mono fun v V11 _ hv => ⟨_, hv, rfl⟩
end Go.Proofs.Ytcapadojlaojkaa
