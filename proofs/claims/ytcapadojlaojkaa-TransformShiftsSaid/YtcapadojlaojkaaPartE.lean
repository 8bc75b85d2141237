/- Part of the proof; it has the parts CShf. -/
import Derived.Test.YtcapadojlaojkaaPartD
namespace Go.Proofs.Ytcapadojlaojkaa
open Go Go.Vc Go.Proofs

theorem QsAt.of_made {V : View} {b n : Nat} {o : List Value} {zs : List Cq} (hb : V b = some o.toArray) (h : QsIn V o zs) (hn : n = zs.length) : QsAt V ⟨some ⟨b, 0, none⟩, n, n⟩ zs := ListAt.of_made hb h hn
theorem q_len5 (r : NumV) : [Value.bool r.re.neg, r.re.mag.v, .bool r.im.neg, r.im.mag.v, r.under.v].length = 5 := rfl

theorem ref1_Of_spec {V : View} {r : RatV} (h : ratI r) : CallV Try.prog n_ref1_Of #[r.val] V fun v V' => ∃ x : NumV, v = x.val ∧ QAt V' x (ratQ r) := by
  obtain ⟨⟨a1, a2⟩, ⟨b1, b2⟩, ⟨c1, c2⟩⟩ := h
  refine ref1_Of_vc r V _ ⟨fun hd => ?_, fun hd => ?_⟩
  · have hd : r.den = 0 := by simpa using hd
    refine (ref1_New_spec a1 a2 b1 b2 (by omega) (by omega) (by omega)).mono fun v V1 _ ⟨x, hv, hx⟩ => ⟨x, 0, hv, x, rfl, ?_⟩
    have e : ratQ r = ⟨((r.re : Int) : Rat) / ((1 : Int) : Rat), ((r.im : Int) : Rat) / ((1 : Int) : Rat)⟩ := by
      unfold ratQ; rw [if_pos hd]
      exact Cq.ext' (by simp only []; grind) (by simp only []; grind)
    rw [e]; exact hx
  · have hd : r.den ≠ 0 := by simpa using hd
    refine (ref1_New_spec a1 a2 b1 b2 c1 c2 hd).mono fun v V1 _ ⟨x, hv, hx⟩ => ⟨x, 0, hv, x, rfl, ?_⟩
    have e : ratQ r = ⟨((r.re : Int) : Rat) / ((r.den : Int) : Rat), ((r.im : Int) : Rat) / ((r.den : Int) : Rat)⟩ := by
      unfold ratQ; rw [if_neg hd]
    rw [e]; exact hx

theorem refList_spec {V : View} {s : Sl} {rs : List RatV} (h : RatsAt V s rs) (hi : ∀ r ∈ rs, ratI r) (hn : rs.length ≤ 2 ^ 32) :
    CallV Try.prog n_waveportlaw07_refList #[s.v] V fun v V' => ∃ r : Sl, v = r.v ∧ QsAt V' r (rs.map ratQ) := by
  have hl := h.len
  let F : Nat → Cq := fun k => nth (rs.map ratQ) k
  refine waveportlaw07_refList_vc s V _ (fun _ x V' => ∃ k : Nat, x.t11 = (k : Int) ∧ k ≤ rs.length ∧ OptIn qC V' x.o8 rs.length (fun p => if p < k then some (F p) else none)) (fun _ x _ => (rs.length - x.t11).toNat) ?_
  rw [hl, Int.toNat_natCast]
  refine ⟨⟨by omega, by omega, by omega, by omega⟩, ⟨0, rfl, by omega, (OptIn.zeros qC V _).congr fun p _ => by simp⟩, ?_⟩
  rintro ⟨t, o⟩ V1 l1 ⟨k, rfl, hk, ho⟩
  dsimp only at ho ⊢
  refine ⟨fun hlt => ?_, fun hge b V3 l3 hb => ?_⟩
  · simp only [decide_eq_true_eq] at hlt
    have hk' : k < rs.length := by omega
    obtain ⟨hb, x, hx, _, hh, hs⟩ := ListAt.get (h.le l1) (t := (k : Int)) (by omega) (z := rs[k]) (by simp [hk'])
    rw [hl] at hb
    refine ⟨hb, rs[k], hx ▸ hh, hs, (ref1_Of_spec (hi _ (List.getElem_mem _))).mono fun v V2 l2 ⟨r, hv, hr⟩ => ⟨r, hv, ⟨by omega, by omega⟩, ?_⟩⟩
    simp only [Int.toNat_natCast]
    rw [i64w (by omega) (by omega)]
    have ho2 := ho.le (qC.le l2)
    refine ⟨ho2.room hk', ⟨k + 1, by omega, by omega, (ho2.set hk' (q_len5 r) (z := F k) ?_).congr fun p _ => ?_⟩, by omega⟩
    · have e : F k = ratQ rs[k] := by simp [F, nth, List.getD, hk']
      rw [e]; exact ⟨r, rfl, hr⟩
    · by_cases c : p = k
      · subst c; simp
      · rw [if_neg c]
        by_cases c2 : p < k
        · rw [if_pos c2, if_pos (by omega)]
        · rw [if_neg c2, if_neg (by omega)]
  · simp only [decide_eq_false_iff_not] at hge
    have hk' : k = rs.length := by omega
    subst hk'
    have ha := (ho.le (qC.le l3)).all (F := F) fun p hp => by rw [if_pos hp]
    have e : (List.range rs.length).map F = rs.map ratQ := by
      have := list_of_nth (rs.map ratQ)
      rw [List.length_map] at this; exact this
    rw [e] at ha
    exact ⟨_, rfl, QsAt.of_made hb ha (by simp)⟩

theorem Shift_spec {V : View} {s : Sl} {zs : List Cq} {b : Int} (h : NumsAt V s zs) (hn : zs.length ≤ 64) :
    CallV Try.prog n_transform_Shift_num_Num_ #[s.v, .int .i64 b] V fun v V' => ∃ r : Sl, v = .tuple #[r.v, .int .i64 0] ∧ NumsAt V' r (shiftF zs b) := by
  have hl := h.len
  let F : Nat → Cq := fun p => nth zs (preP zs.length (modB b zs.length) p)
  refine transform_Shift_num_Num__vc s b V _ (fun _ x V' => ∃ k : Nat, x.t17 = (k : Int) ∧ k ≤ zs.length ∧ OptIn numC V' x.o14 zs.length (fun p => if preP zs.length (modB b zs.length) p < k then some (F p) else none)) (fun _ x _ => (zs.length - x.t17).toNat) ?_
  rw [hl]
  refine ⟨fun h => absurd h (by simp; omega), fun _ => ⟨⟨by omega, by omega, by omega, by omega⟩, ⟨0, rfl, by omega, ?_⟩, ?_⟩⟩
  · rw [Int.toNat_natCast]
    exact (OptIn.zeros numC V _).congr fun p _ => by simp
  rintro ⟨t, o⟩ V1 l1 ⟨k, rfl, hk, ho⟩
  dsimp only at ho ⊢
  refine ⟨fun hlt => ?_, fun hge b V3 l3 hb => ?_⟩
  · simp only [decide_eq_true_eq] at hlt
    have hk' : k < zs.length := by omega
    have hm := modB_lt b (n := zs.length) (by omega)
    rw [moved_prog b hk' (by omega)]
    obtain ⟨hb, x, hx, hs, hnx⟩ := (h.le l1).get (t := (k : Int)) (by omega) (by rw [Int.toNat_natCast]; exact hk')
    rw [hl] at hb
    simp only [Int.toNat_natCast] at hx hs hnx ⊢
    have hq : (k + modB b zs.length) % zs.length < zs.length := Nat.mod_lt _ (by omega)
    rw [i64w (n := (k : Int) + 1) (by omega) (by omega)]
    refine ⟨by omega, by omega, hb, x, hx, hs, ⟨by omega, by omega⟩, ho.room hq, ⟨k + 1, by omega, by omega, (ho.set hq (q_len5 x) (z := nth zs k) ⟨x, rfl, hnx⟩).congr fun p hp => ?_⟩, by omega⟩
    have hpe := preP_eq hm hp hk'
    by_cases c : p = (k + modB b zs.length) % zs.length
    · rw [if_pos c]
      have c2 := hpe.2 c
      show _ = if _ then some (nth zs (preP zs.length (modB b zs.length) p)) else none
      rw [c2, if_pos (by omega)]
    · rw [if_neg c]
      have c2 : preP zs.length (modB b zs.length) p ≠ k := fun e => c (hpe.1 e)
      by_cases c3 : preP zs.length (modB b zs.length) p < k
      · rw [if_pos c3, if_pos (by omega)]
      · rw [if_neg c3, if_neg (by omega)]
  · simp only [decide_eq_false_iff_not] at hge
    have hk' : k = zs.length := by omega
    subst hk'
    have ha := (ho.le (numC.le l3)).all (F := F) fun p hp => by rw [if_pos (preP_lt (modB_lt _ (by omega)) hp)]
    exact ⟨_, rfl, ListAt.of_made (zs := shiftF zs _) hb ha (by simp [shiftF])⟩

theorem Shift_long {V : View} {s : Sl} {zs : List Cq} {b : Int} (h : NumsAt V s zs) (hn : 64 < zs.length) :
    CallV Try.prog n_transform_Shift_num_Num_ #[s.v, .int .i64 b] V fun v V' => ∃ r : Sl, v = .tuple #[r.v, .int .i64 4] ∧ NumsAt V' r [] := by
  have hl := h.len
  refine transform_Shift_num_Num__vc s b V _ (fun _ _ _ => True) (fun _ _ _ => 0) ⟨fun _ => ⟨_, rfl, ListAt.nil⟩, fun h => ?_⟩
  rw [hl] at h; simp at h; omega

theorem pair_spec {V : View} (p q : Sl) : CallV Try.prog n_waveportref07_pair #[p.v, q.v] V fun v _ => v = .bool (decide (p.len = q.len ∧ p.len ≤ 64)) := by
  refine waveportref07_pair_vc p q V _ ⟨fun h => ?_, fun h => ?_⟩
  · have h : p.len = q.len := by have : (p.len : Int) = q.len := (by simpa using h); omega
    congr 1
    by_cases c : p.len ≤ 64
    · rw [decide_eq_true (show ((p.len : Int) ≤ 64) by omega), decide_eq_true ⟨h, c⟩]
    · rw [decide_eq_false (show ¬ ((p.len : Int) ≤ 64) by omega), decide_eq_false (fun x => c x.2)]
  · have h : ¬ p.len = q.len := by
      intro e; rw [e] at h; simp at h
    rw [decide_eq_false (fun x => h x.1)]

theorem Moved_spec {V : View} {k n : Nat} (b : Int) (hk : k < n) (hn : n ≤ 2 ^ 40) :
    CallV Try.prog n_waveportref07_Moved #[.int .i64 (k : Int), .int .i64 b, .int .i64 (n : Int)] V fun v _ => v = .int .i64 (((k + modB b n) % n : Nat) : Int) := by
  obtain ⟨h1, h2⟩ := moved_ref b hk hn
  refine waveportref07_Moved_vc _ b _ V _ ⟨by omega, fun h => ⟨by omega, ?_⟩, fun h => ⟨by omega, ?_⟩⟩
  · rw [h1 h]
  · rw [h2 h]

theorem refShift_spec {V : View} {s : Sl} {zs : List Cq} {b : Int} (h : QsAt V s zs) (hn : zs.length ≤ 64) :
    CallV Try.prog n_waveportref07_Shift #[s.v, .int .i64 b] V fun v V' => ∃ r : Sl, v = .tuple #[r.v, .int .i64 0] ∧ QsAt V' r (shiftF zs b) := by
  have hl := h.len
  let F : Nat → Cq := fun p => nth zs (preP zs.length (modB b zs.length) p)
  refine waveportref07_Shift_vc s b V _ (fun _ x V' => ∃ k : Nat, x.t7 = (k : Int) ∧ k ≤ zs.length ∧ OptIn qC V' x.o14 zs.length (fun p => if preP zs.length (modB b zs.length) p < k then some (F p) else none)) (fun _ x _ => (zs.length - x.t7).toNat)
    ((pair_spec s s).mono fun v V1 l1 hv => ⟨_, hv, fun h => ?_, fun _ => ?_⟩)
  · rw [hl, decide_eq_true ⟨rfl, hn⟩] at h; simp at h
  rw [hl]
  refine ⟨⟨by omega, by omega, by omega, by omega⟩, ⟨0, rfl, by omega, ?_⟩, ?_⟩
  · rw [Int.toNat_natCast]
    exact (OptIn.zeros qC V1 _).congr fun p _ => by simp
  rintro ⟨t, o⟩ V2 l2 ⟨k, rfl, hk, ho⟩
  dsimp only at ho ⊢
  refine ⟨fun hlt => ?_, fun hge b V3 l3 hb => ?_⟩
  · simp only [decide_eq_true_eq] at hlt
    have hk' : k < zs.length := by omega
    have hm := modB_lt b (n := zs.length) (by omega)
    obtain ⟨hb, x, hx, hs, hnx⟩ := (h.le (View.le_trans l1 l2)).get (t := (k : Int)) (by omega) (by rw [Int.toNat_natCast]; exact hk')
    rw [hl] at hb
    have hq : (k + modB b zs.length) % zs.length < zs.length := Nat.mod_lt _ (by omega)
    refine ⟨hb, x, hx, hs, (Moved_spec b hk' (by omega)).mono fun v V3 l3 hv => ⟨_, hv, ⟨by omega, by omega⟩, ?_⟩⟩
    simp only [Int.toNat_natCast] at hnx ⊢
    rw [i64w (n := (k : Int) + 1) (by omega) (by omega)]
    have ho3 := ho.le (qC.le l3)
    refine ⟨ho3.room hq, ⟨k + 1, by omega, by omega, (ho3.set hq (q_len5 x) (z := nth zs k) ⟨x, rfl, hnx.le l3⟩).congr fun p hp => ?_⟩, by omega⟩
    have hpe := preP_eq hm hp hk'
    by_cases c : p = (k + modB b zs.length) % zs.length
    · rw [if_pos c]
      have c2 := hpe.2 c
      show _ = if _ then some (nth zs (preP zs.length (modB b zs.length) p)) else none
      rw [c2, if_pos (by omega)]
    · rw [if_neg c]
      have c2 : preP zs.length (modB b zs.length) p ≠ k := fun e => c (hpe.1 e)
      by_cases c3 : preP zs.length (modB b zs.length) p < k
      · rw [if_pos c3, if_pos (by omega)]
      · rw [if_neg c3, if_neg (by omega)]
  · simp only [decide_eq_false_iff_not] at hge
    have hk' : k = zs.length := by omega
    subst hk'
    have ha := (ho.le (qC.le l3)).all (F := F) fun p hp => by rw [if_pos (preP_lt (modB_lt _ (by omega)) hp)]
    exact ⟨_, rfl, QsAt.of_made (zs := shiftF zs _) hb ha (by simp [shiftF])⟩

theorem refShift_long {V : View} {s : Sl} {zs : List Cq} {b : Int} (h : QsAt V s zs) (hn : 64 < zs.length) :
    CallV Try.prog n_waveportref07_Shift #[s.v, .int .i64 b] V fun v V' => ∃ r : Sl, v = .tuple #[r.v, .int .i64 4] ∧ QsAt V' r [] := by
  have hl := h.len
  refine waveportref07_Shift_vc s b V _ (fun _ _ _ => True) (fun _ _ _ => 0) ((pair_spec s s).mono fun v V1 l1 hv => ⟨_, hv, fun _ => ⟨_, rfl, ListAt.nil⟩, fun h => ?_⟩)
  rw [hl, decide_eq_false (fun x => by omega)] at h; simp at h

theorem Length_spec {V : View} (n : Int) : CallV Try.prog n_waveportref07_Length #[.int .i64 n] V fun v _ => v = .bool (lenB n.toNat) := by
  refine waveportref07_Length_vc n V _ (fun _ x _ => ∃ j : Nat, x.t3 = ((2 ^ j : Nat) : Int) ∧ j ≤ 7 ∧ ∀ i, i < j → n ≠ ((2 ^ i : Nat) : Int)) (fun _ x _ => (128 - x.t3).toNat) ⟨⟨0, rfl, by omega, fun i hi => by omega⟩, ?_⟩
  rintro ⟨t⟩ V1 l1 ⟨j, rfl, hj, hne⟩
  dsimp only
  have hp : 2 ^ j ≤ 2 ^ 7 := Nat.pow_le_pow_right (by omega) hj
  have hp1 : 1 ≤ 2 ^ j := Nat.pow_pos (by omega)
  refine ⟨fun hle => ⟨fun he => ?_, fun he => ?_⟩, fun hgt => ?_⟩
  · simp only [decide_eq_true_eq] at hle
    have he : n = ((2 ^ j : Nat) : Int) := by simpa using he
    rw [he, Int.toNat_natCast]
    have hj6 : j ≤ 6 := by
      rcases Nat.lt_or_ge j 7 with h | h
      · omega
      · have : j = 7 := by omega
        subst this
        exfalso; revert hle; decide
    rw [lenB_pow j (by simp; omega)]
  · have he : n ≠ ((2 ^ j : Nat) : Int) := by simpa using he
    have e2 : ((2 ^ j : Nat) : Int) * 2 = ((2 ^ (j + 1) : Nat) : Int) := by rw [Nat.pow_succ]; omega
    simp only [decide_eq_true_eq] at hle
    rw [e2, i64w (by omega) (by rw [Nat.pow_succ]; omega)]
    have hj6 : j ≤ 6 := by
      rcases Nat.lt_or_ge j 7 with h | h
      · omega
      · have : j = 7 := by omega
        subst this
        exfalso; revert hle; decide
    refine ⟨⟨j + 1, rfl, by omega, fun i hi => ?_⟩, by rw [Nat.pow_succ]; omega⟩
    rcases Nat.lt_or_ge i j with h | h
    · exact hne i h
    · have : i = j := by omega
      subst this; exact he
  · simp only [decide_eq_false_iff_not] at hgt
    have hj7 : j = 7 := by
      rcases Nat.lt_or_ge j 7 with h | h
      · have : 2 ^ j ≤ 2 ^ 6 := Nat.pow_le_pow_right (by omega) (by omega)
        omega
      · omega
    subst hj7
    have : lenB n.toNat = false := by
      cases hb : lenB n.toNat with
      | false => rfl
      | true =>
        exfalso
        obtain ⟨h1, h2⟩ := lenB_le hb
        have hmem : n.toNat ∈ [1, 2, 4, 8, 16, 32, 64] := by
          unfold lenB at hb; exact List.contains_iff_mem.1 hb
        have hn : n = (n.toNat : Int) := by omega
        simp only [List.mem_cons, List.not_mem_nil, or_false] at hmem
        rcases hmem with h | h | h | h | h | h | h
        · exact hne 0 (by omega) (by rw [hn, h])
        · exact hne 1 (by omega) (by rw [hn, h])
        · exact hne 2 (by omega) (by rw [hn, h])
        · exact hne 3 (by omega) (by rw [hn, h])
        · exact hne 4 (by omega) (by rw [hn, h])
        · exact hne 5 (by omega) (by rw [hn, h])
        · exact hne 6 (by omega) (by rw [hn, h])
    rw [this]

theorem Extend_spec {V : View} {s : Sl} {x : NumV} {zs : List Cq} {d : Cq} (h : NumsAt V s zs) (hx : NumAt V x d) (hb : lenB (2 * (zs.length + 1)) = true) :
    CallV Try.prog n_transform_Extend_num_Num_ #[s.v, x.val] V fun v V' => ∃ r : Sl, v = .tuple #[r.v, .int .i64 0] ∧ NumsAt V' r (extendF zs d) := by
  have hl := h.len
  have hb2 := lenB_le hb
  have w1 : IntKind.i64.wrap ((zs.length : Int) + 1) = ((zs.length + 1 : Nat) : Int) := by rw [i64w (by omega) (by omega)]; omega
  have w2 : IntKind.i64.wrap (2 * ((zs.length + 1 : Nat) : Int)) = ((2 * (zs.length + 1) : Nat) : Int) := by rw [i64w (by omega) (by omega)]; omega
  refine transform_Extend_num_Num__vc s x V _ (fun _ _ _ => True) (fun _ y V' => ∃ k : Nat, y.t8 = (k : Int) ∧ 1 ≤ k ∧ k ≤ zs.length + 1 ∧ OptIn numC V' y.o22 (2 * (zs.length + 1)) (extendI zs d k)) (fun _ y _ => (zs.length + 1 - y.t8).toNat) ?_
  rw [hl, w1, w2]
  simp only [Int.toNat_natCast]
  refine ⟨⟨fun h => absurd h (by simp; omega), fun _ => (transform_length_spec (by omega)).mono fun v V2 l2 hv => ⟨_, hv, fun h => ?_, fun _ => trivial⟩⟩, ?_⟩
  · rw [Int.toNat_natCast, hb] at h; simp at h
  intro _ V1 l1 _
  refine ⟨⟨by omega, by omega, by omega, by omega⟩, (of_spec (p := 0) (q := 1) (by decide) (by decide) (by decide) (by decide) (by decide)).mono fun v V3 l3 ⟨r2, hv, h2⟩ => ⟨r2, hv, ?_⟩⟩
  rw [zeroQ_eq] at h2
  have s0 := OptIn.zeros numC V3 (2 * (zs.length + 1))
  have s1 := s0.set (i := 0) (by omega) (q_len5 x) (z := d) ⟨x, rfl, hx.le (View.le_trans l1 l3)⟩
  have s2 := s1.set (i := zs.length + 1) (by omega) (q_len5 r2) (z := Cq.zero) ⟨r2, rfl, h2⟩
  refine ⟨⟨by omega, by simp; omega⟩, s0.room (i := 0) (by omega), ⟨by omega, by omega⟩, s1.room (i := zs.length + 1) (by omega), ⟨1, rfl, by omega, by omega, s2.congr fun p hp => ?_⟩, ?_⟩
  · unfold extendI
    by_cases c0 : p = zs.length + 1
    · rw [if_pos c0, if_neg (by omega), if_pos c0]
    · rw [if_neg c0]
      by_cases c1 : p = 0
      · rw [if_pos c1, if_pos c1]
      · rw [if_neg c1, if_neg c1, if_neg c0]
        by_cases c2 : p < zs.length + 1
        · rw [if_pos c2, if_neg (by omega)]
        · rw [if_neg c2, if_neg (by omega)]
  rintro ⟨t, o⟩ V4 l4 ⟨k, rfl, hk1, hk, ho⟩
  dsimp only at ho ⊢
  refine ⟨fun hlt => ?_, fun hge b V6 l6 hb6 => ?_⟩
  · simp only [decide_eq_true_eq] at hlt
    have w3 : IntKind.i64.wrap ((k : Int) - 1) = ((k - 1 : Nat) : Int) := by rw [i64w (by omega) (by omega)]; omega
    have w4 : IntKind.i64.wrap (((2 * (zs.length + 1) : Nat) : Int) - (k : Int)) = ((2 * (zs.length + 1) - k : Nat) : Int) := by rw [i64w (by omega) (by omega)]; omega
    have w5 : IntKind.i64.wrap ((k : Int) + 1) = ((k + 1 : Nat) : Int) := by rw [i64w (by omega) (by omega)]; omega
    rw [w3, w4, w5]
    obtain ⟨hb6, x6, hx6, hs6, hn6⟩ := (h.le (View.le_trans l1 (View.le_trans l3 l4))).get (t := ((k - 1 : Nat) : Int)) (by omega) (by rw [Int.toNat_natCast]; omega)
    rw [hl] at hb6
    rw [Int.toNat_natCast] at hn6
    refine ⟨hb6, x6, hx6, hs6, hb6, x6, hx6, hs6, (Num_Conj_spec hn6).mono fun v V5 l5 ⟨r3, hv, h3⟩ => ⟨r3, hv, ?_⟩⟩
    simp only [Int.toNat_natCast]
    have o5 := ho.le (numC.le l5)
    have t1 := o5.set (i := k) (by omega) (q_len5 x6) (z := nth zs (k - 1)) ⟨x6, rfl, hn6.le l5⟩
    have t2 := t1.set (i := 2 * (zs.length + 1) - k) (by omega) (q_len5 r3) (z := (nth zs (k - 1)).conj) ⟨r3, rfl, h3⟩
    exact ⟨⟨by omega, by omega⟩, o5.room (i := k) (by omega), ⟨by omega, by omega⟩, t1.room (by omega), ⟨k + 1, rfl, by omega, by omega, t2.congr fun p hp => extendI_step hk1 (by omega) hp⟩, by omega⟩
  · simp only [decide_eq_false_iff_not] at hge
    have hk' : k = zs.length + 1 := by omega
    subst hk'
    have ha := (ho.le (numC.le l6)).all (F := extendP zs d) fun p hp => extendI_all hp
    exact ⟨_, rfl, ListAt.of_made (zs := extendF zs d) hb6 ha (by simp [extendF])⟩

theorem Extend_long {V : View} {s : Sl} {x : NumV} {zs : List Cq} (h : NumsAt V s zs) (hn : zs.length ≤ 2 ^ 32) (hb : lenB (2 * (zs.length + 1)) = false) :
    CallV Try.prog n_transform_Extend_num_Num_ #[s.v, x.val] V fun v V' => ∃ r : Sl, v = .tuple #[r.v, .int .i64 4] ∧ NumsAt V' r [] := by
  have hl := h.len
  have w1 : IntKind.i64.wrap ((zs.length : Int) + 1) = ((zs.length + 1 : Nat) : Int) := by rw [i64w (by omega) (by omega)]; omega
  have w2 : IntKind.i64.wrap (2 * ((zs.length + 1 : Nat) : Int)) = ((2 * (zs.length + 1) : Nat) : Int) := by rw [i64w (by omega) (by omega)]; omega
  refine transform_Extend_num_Num__vc s x V _ (fun _ _ _ => False) (fun _ _ _ => False) (fun _ _ _ => 0) ?_
  rw [hl, w1, w2]
  refine ⟨⟨fun _ => ⟨fun _ => ⟨_, rfl, ListAt.nil⟩, fun h => absurd h (by simp)⟩, fun _ => (transform_length_spec (by omega)).mono fun v V2 l2 hv => ⟨_, hv, fun _ => ⟨_, rfl, ListAt.nil⟩, fun h => ?_⟩⟩, ?_⟩
  · rw [Int.toNat_natCast, hb] at h; simp at h
  · intro _ _ _ h; exact h.elim

theorem refExtend_spec {V : View} {s : Sl} {x : NumV} {zs : List Cq} {d : Cq} (h : QsAt V s zs) (hx : QAt V x d) (hb : lenB (2 * (zs.length + 1)) = true) :
    CallV Try.prog n_waveportref07_Extend #[s.v, x.val] V fun v V' => ∃ r : Sl, v = .tuple #[r.v, .int .i64 0] ∧ QsAt V' r (extendF zs d) := by
  have hl := h.len
  have hb2 := lenB_le hb
  have w1 : IntKind.i64.wrap ((zs.length : Int) + 1) = ((zs.length + 1 : Nat) : Int) := by rw [i64w (by omega) (by omega)]; omega
  have w2 : IntKind.i64.wrap (2 * ((zs.length + 1 : Nat) : Int)) = ((2 * (zs.length + 1) : Nat) : Int) := by rw [i64w (by omega) (by omega)]; omega
  refine waveportref07_Extend_vc s x V _ (fun _ y V' => ∃ k : Nat, y.t8 = (k : Int) ∧ 1 ≤ k ∧ k ≤ zs.length + 1 ∧ OptIn qC V' y.o18 (2 * (zs.length + 1)) (extendI zs d k)) (fun _ y _ => (zs.length + 1 - y.t8).toNat) ?_
  rw [hl, w1, w2]
  simp only [Int.toNat_natCast]
  refine (Length_spec _).mono fun v V1 l1 hv => ⟨_, hv, fun h => ?_, fun _ => ?_⟩
  · rw [Int.toNat_natCast, hb] at h; simp at h
  have s0 := OptIn.zeros qC V1 (2 * (zs.length + 1))
  refine ⟨⟨by omega, by omega, by omega, by omega⟩, ⟨by omega, by simp; omega⟩, s0.room (i := 0) (by omega), (ref1_Whole_spec (n := 0) (by omega) (by omega)).mono fun v V3 l3 ⟨r2, hv, h2⟩ => ⟨r2, hv, ?_⟩⟩
  have ez : (⟨((0 : Int) : Rat), 0⟩ : Cq) = Cq.zero := Cq.ext' (by simp [Cq.zero]) rfl
  rw [ez] at h2
  have s0 := OptIn.zeros qC V3 (2 * (zs.length + 1))
  have s1 := s0.set (i := 0) (by omega) (q_len5 x) (z := d) ⟨x, rfl, hx.le (View.le_trans l1 l3)⟩
  have s2 := s1.set (i := zs.length + 1) (by omega) (q_len5 r2) (z := Cq.zero) ⟨r2, rfl, h2⟩
  refine ⟨⟨by omega, by omega⟩, s1.room (i := zs.length + 1) (by omega), ⟨1, rfl, by omega, by omega, s2.congr fun p hp => ?_⟩, ?_⟩
  · unfold extendI
    by_cases c0 : p = zs.length + 1
    · rw [if_pos c0, if_neg (by omega), if_pos c0]
    · rw [if_neg c0]
      by_cases c1 : p = 0
      · rw [if_pos c1, if_pos c1]
      · rw [if_neg c1, if_neg c1, if_neg c0]
        by_cases c2 : p < zs.length + 1
        · rw [if_pos c2, if_neg (by omega)]
        · rw [if_neg c2, if_neg (by omega)]
  rintro ⟨t, o⟩ V4 l4 ⟨k, rfl, hk1, hk, ho⟩
  dsimp only at ho ⊢
  refine ⟨fun hlt => ?_, fun hge b V6 l6 hb6 => ?_⟩
  · simp only [decide_eq_true_eq] at hlt
    have w3 : IntKind.i64.wrap ((k : Int) - 1) = ((k - 1 : Nat) : Int) := by rw [i64w (by omega) (by omega)]; omega
    have w4 : IntKind.i64.wrap (((2 * (zs.length + 1) : Nat) : Int) - (k : Int)) = ((2 * (zs.length + 1) - k : Nat) : Int) := by rw [i64w (by omega) (by omega)]; omega
    have w5 : IntKind.i64.wrap ((k : Int) + 1) = ((k + 1 : Nat) : Int) := by rw [i64w (by omega) (by omega)]; omega
    rw [w3, w4, w5]
    obtain ⟨hb6, x6, hx6, hs6, hn6⟩ := (h.le (View.le_trans l1 (View.le_trans l3 l4))).get (t := ((k - 1 : Nat) : Int)) (by omega) (by rw [Int.toNat_natCast]; omega)
    rw [hl] at hb6
    rw [Int.toNat_natCast] at hn6
    simp only [Int.toNat_natCast]
    rw [Int.toNat_natCast] at hx6 hs6
    refine ⟨hb6, x6, hx6, hs6, ⟨by omega, by omega⟩, ho.room (i := k) (by omega), hb6, x6, hx6, hs6, (ref1_Conj_spec hn6).mono fun v V5 l5 ⟨r3, hv, h3⟩ => ⟨r3, hv, ?_⟩⟩
    have o5 := ho.le (qC.le l5)
    have t1 := o5.set (i := k) (by omega) (q_len5 x6) (z := nth zs (k - 1)) ⟨x6, rfl, hn6.le l5⟩
    have t2 := t1.set (i := 2 * (zs.length + 1) - k) (by omega) (q_len5 r3) (z := (nth zs (k - 1)).conj) ⟨r3, rfl, h3⟩
    exact ⟨⟨by omega, by omega⟩, t1.room (by omega), ⟨k + 1, rfl, by omega, by omega, t2.congr fun p hp => extendI_step hk1 (by omega) hp⟩, by omega⟩
  · simp only [decide_eq_false_iff_not] at hge
    have hk' : k = zs.length + 1 := by omega
    subst hk'
    have ha := (ho.le (qC.le l6)).all (F := extendP zs d) fun p hp => extendI_all hp
    exact ⟨_, rfl, QsAt.of_made (zs := extendF zs d) hb6 ha (by simp [extendF])⟩

theorem refExtend_long {V : View} {s : Sl} {x : NumV} {zs : List Cq} (h : QsAt V s zs) (hn : zs.length ≤ 2 ^ 32) (hb : lenB (2 * (zs.length + 1)) = false) :
    CallV Try.prog n_waveportref07_Extend #[s.v, x.val] V fun v V' => ∃ r : Sl, v = .tuple #[r.v, .int .i64 4] ∧ QsAt V' r [] := by
  have hl := h.len
  have w1 : IntKind.i64.wrap ((zs.length : Int) + 1) = ((zs.length + 1 : Nat) : Int) := by rw [i64w (by omega) (by omega)]; omega
  have w2 : IntKind.i64.wrap (2 * ((zs.length + 1 : Nat) : Int)) = ((2 * (zs.length + 1) : Nat) : Int) := by rw [i64w (by omega) (by omega)]; omega
  refine waveportref07_Extend_vc s x V _ (fun _ _ _ => True) (fun _ _ _ => 0) ?_
  rw [hl, w1, w2]
  refine (Length_spec _).mono fun v V1 l1 hv => ⟨_, hv, fun _ => ⟨_, rfl, ListAt.nil⟩, fun h => ?_⟩
  rw [Int.toNat_natCast, hb] at h; simp at h

theorem half_eq : (⟨((1 : Int) : Rat) / ((2 : Int) : Rat), ((0 : Int) : Rat) / ((2 : Int) : Rat)⟩ : Cq) = ⟨1 / 2, 0⟩ := Cq.ext' (by simp) (by simp [Rat.div_def])
theorem half_sz : (⟨1 / 2, 0⟩ : Cq).sz ≤ 4 := by decide +kernel
theorem zeroEst_sz {zs : List Cq} {S : Nat} (h0 : (nth zs 0).sz ≤ S) (h1 : (nth zs 1).sz ≤ S) : (zeroEst zs).sz ≤ 6 * S + 20 := by
  unfold zeroEst
  have a1 := Cq.sz_sub (nth zs 0) (nth zs 1)
  have a2 := Cq.sz_add (nth zs 0) (nth zs 0 - nth zs 1)
  have a3 := Cq.sz_conj (nth zs 0 + (nth zs 0 - nth zs 1))
  have a4 := Cq.sz_add (nth zs 0 + (nth zs 0 - nth zs 1)) (nth zs 0 + (nth zs 0 - nth zs 1)).conj
  have a5 := Cq.sz_mul (nth zs 0 + (nth zs 0 - nth zs 1) + (nth zs 0 + (nth zs 0 - nth zs 1)).conj) ⟨1 / 2, 0⟩
  have a6 := half_sz
  simp only []
  omega

theorem Zero_spec {V : View} {s : Sl} {zs : List Cq} {S : Nat} (h : NumsAt V s zs) (h2 : 2 ≤ zs.length) (hn : zs.length ≤ 64) (s0 : (nth zs 0).sz ≤ S) (s1 : (nth zs 1).sz ≤ S) (hS : S ≤ 2 ^ 30) :
    CallV Try.prog n_transform_Zero_num_Num_ #[s.v] V fun v V' => ∃ r : NumV, v = .tuple #[r.val, .int .i64 0] ∧ NumAt V' r (zeroEst zs) := by
  have hl := h.len
  have a1 := Cq.sz_sub (nth zs 0) (nth zs 1)
  have a2 := Cq.sz_add (nth zs 0) (nth zs 0 - nth zs 1)
  have a3 := Cq.sz_conj (nth zs 0 + (nth zs 0 - nth zs 1))
  have a4 := Cq.sz_add (nth zs 0 + (nth zs 0 - nth zs 1)) (nth zs 0 + (nth zs 0 - nth zs 1)).conj
  have a6 := half_sz
  obtain ⟨hb0, x0, hx0, hs0, hn0⟩ := h.get (t := 0) (by omega) (by show 0 < _; omega)
  obtain ⟨hb1, x1, hx1, hs1, hn1⟩ := h.get (t := 1) (by omega) (by show 1 < _; omega)
  refine transform_Zero_num_Num__vc s V _ ⟨fun h => ?_, fun _ => ⟨fun h => ?_, fun _ => ⟨hb0, x0, hx0, hs0, hb0, x0, hx0, hs0, hb1, x1, hx1, hs1, ?_⟩⟩⟩
  · rw [hl] at h; simp at h; omega
  · rw [hl] at h; simp at h; omega
  have hn0 : NumAt V x0 (nth zs 0) := hn0
  have hn1 : NumAt V x1 (nth zs 1) := hn1
  refine (Num_Sub_spec hn0 hn1 (by omega) (by omega)).mono fun v V1 l1 ⟨r1, hv, g1⟩ => ⟨r1, hv, ?_⟩
  refine (Num_Add_spec (hn0.le l1) g1 (by omega) (by omega)).mono fun v V2 l2 ⟨r2, hv, g2⟩ => ⟨r2, hv, ?_⟩
  refine (Num_Conj_spec g2).mono fun v V3 l3 ⟨r3, hv, g3⟩ => ⟨r3, hv, ?_⟩
  refine (Num_Add_spec (g2.le l3) g3 (by omega) (by omega)).mono fun v V4 l4 ⟨r4, hv, g4⟩ => ⟨r4, hv, ?_⟩
  refine (of_spec (p := 1) (q := 2) (by decide) (by decide) (by decide) (by decide) (by decide)).mono fun v V5 l5 ⟨r5, hv, g5⟩ => ⟨r5, hv, ?_⟩
  rw [half_eq] at g5
  exact (Num_Mul_spec (g4.le l5) g5 (by omega) (by omega)).mono fun v V6 l6 ⟨r6, hv, g6⟩ => ⟨r6, hv, r6, rfl, g6⟩

theorem Zero_bad {V : View} {s : Sl} {zs : List Cq} (h : NumsAt V s zs) (hb : zs.length < 2 ∨ 64 < zs.length) :
    CallV Try.prog n_transform_Zero_num_Num_ #[s.v] V fun v V' => ∃ r : NumV, v = .tuple #[r.val, .int .i64 4] ∧ NumAt V' r Cq.zero := by
  have hl := h.len
  refine transform_Zero_num_Num__vc s V _ ⟨fun _ => ⟨fun _ => ⟨_, rfl, NumAt.zero V⟩, fun h => absurd h (by simp)⟩, fun h1 => ⟨fun _ => ⟨_, rfl, NumAt.zero V⟩, fun h2 => ?_⟩⟩
  rw [hl] at h1 h2; simp at h1 h2; omega

theorem refZero_spec {V : View} {s : Sl} {zs : List Cq} {S : Nat} (h : QsAt V s zs) (h2 : 2 ≤ zs.length) (hn : zs.length ≤ 64) (s0 : (nth zs 0).sz ≤ S) (s1 : (nth zs 1).sz ≤ S) (hS : S ≤ 2 ^ 30) :
    CallV Try.prog n_waveportref07_Zero #[s.v] V fun v V' => ∃ r : NumV, v = .tuple #[r.val, .int .i64 0] ∧ QAt V' r (zeroEst zs) := by
  have hl := h.len
  have a1 := Cq.sz_sub (nth zs 0) (nth zs 1)
  have a2 := Cq.sz_add (nth zs 0) (nth zs 0 - nth zs 1)
  have a3 := Cq.sz_conj (nth zs 0 + (nth zs 0 - nth zs 1))
  have a4 := Cq.sz_add (nth zs 0 + (nth zs 0 - nth zs 1)) (nth zs 0 + (nth zs 0 - nth zs 1)).conj
  have a6 := half_sz
  refine waveportref07_Zero_vc s V _ ⟨fun h => ?_, fun _ => ⟨fun h => ?_, fun _ => ?_⟩⟩
  · rw [hl] at h; simp at h; omega
  · rw [hl] at h; simp at h; omega
  refine (ref1_New_spec (by omega) (by omega) (by omega) (by omega) (by omega) (by omega) (by omega)).mono fun v V0 l0 ⟨r0, hv, g0⟩ => ⟨r0, 0, hv, ?_⟩
  rw [half_eq] at g0
  obtain ⟨hb0, x0, hx0, hs0, hn0⟩ := (h.le l0).get (t := 0) (by omega) (by show 0 < _; omega)
  obtain ⟨hb1, x1, hx1, hs1, hn1⟩ := (h.le l0).get (t := 1) (by omega) (by show 1 < _; omega)
  refine ⟨hb0, x0, hx0, hs0, hb0, x0, hx0, hs0, hb1, x1, hx1, hs1, ?_⟩
  have hn0 : QAt V0 x0 (nth zs 0) := hn0
  have hn1 : QAt V0 x1 (nth zs 1) := hn1
  refine (ref1_Sub_spec hn0 hn1 (by omega) (by omega)).mono fun v V1 l1 ⟨r1, hv, g1⟩ => ⟨r1, hv, ?_⟩
  refine (ref1_Add_spec (hn0.le l1) g1 (by omega) (by omega)).mono fun v V2 l2 ⟨r2, hv, g2⟩ => ⟨r2, hv, ?_⟩
  refine (ref1_Conj_spec g2).mono fun v V3 l3 ⟨r3, hv, g3⟩ => ⟨r3, hv, ?_⟩
  refine (ref1_Add_spec (g2.le l3) g3 (by omega) (by omega)).mono fun v V4 l4 ⟨r4, hv, g4⟩ => ⟨r4, hv, ?_⟩
  exact (ref1_Mul_spec g4 (g0.le (View.le_trans l1 (View.le_trans l2 (View.le_trans l3 l4)))) (by omega) (by omega)).mono fun v V6 l6 ⟨r6, hv, g6⟩ => ⟨r6, hv, r6, rfl, g6⟩

theorem refZero_bad {V : View} {s : Sl} {zs : List Cq} (h : QsAt V s zs) (hb : zs.length < 2 ∨ 64 < zs.length) :
    CallV Try.prog n_waveportref07_Zero #[s.v] V fun v V' => ∃ r : NumV, v = .tuple #[r.val, .int .i64 4] ∧ QAt V' r Cq.zero := by
  have hl := h.len
  have ez : (⟨((0 : Int) : Rat), 0⟩ : Cq) = Cq.zero := Cq.ext' (by simp [Cq.zero]) rfl
  have w : ∀ {V : View}, CallV Try.prog n_ref1_Whole #[.int .i64 0] V fun v V1 => ∃ r1 : NumV, v = r1.val ∧ ∃ r : NumV, Value.tuple #[r1.val, .int .i64 4] = .tuple #[r.val, .int .i64 4] ∧ QAt V1 r Cq.zero :=
    (ref1_Whole_spec (n := 0) (by omega) (by omega)).mono fun v V1 _ ⟨r, hv, hr⟩ => ⟨r, hv, r, rfl, by rw [← ez]; exact hr⟩
  refine waveportref07_Zero_vc s V _ ⟨fun _ => ⟨fun _ => w, fun h => absurd h (by simp)⟩, fun h1 => ⟨fun _ => w, fun h2 => ?_⟩⟩
  rw [hl] at h1 h2; simp at h1 h2; omega

/-- The call of TransformShifts returns true. -/
theorem TransformShifts_spec {V : View} {s : Sl} {rs : List RatV} {p b : Int} {d : RatV} (h : RatsAt V s rs) (hr : rs.length < 2 ^ 64) (p0 : 0 ≤ p) (p1 : p ≤ 255) (hd : ratI d) :
    CallV Try.prog n_waveportlaw07_TransformShifts #[s.v, .int .u8 p, .int .i64 b, d.val] V fun v _ => v = .bool true := by
  refine waveportlaw07_TransformShifts_vc s p b d V _ ⟨fun _ => awake_spec.mono fun v V1 _ hv => ⟨_, hv, rfl⟩, fun _ => ?_⟩
  obtain ⟨n, hn, hn70⟩ : ∃ n : Nat, Int.tmod (IntKind.i64.wrap p) 71 = (n : Int) ∧ n ≤ 70 := by
    rw [i64w (by omega) (by omega), Int.tmod_eq_emod_of_nonneg p0]
    exact ⟨(p % 71).toNat, by omega, by omega⟩
  rw [hn]
  refine (repeated_spec h hr (by omega)).mono fun v V1 l1 ⟨a, hv, ha⟩ => ⟨a, hv, ?_⟩
  have hal : (repeatedR rs n).length = n := by simp [repeatedR]
  have hok : ∀ r ∈ repeatedR rs n, ratI r := fun r hr => (repeatedR_tame rs _ r hr).ok
  have hzl := exactQ_length rs n
  have hzs := exactQ_sz rs n
  have hN : ∀ {V : View}, RatsAt V a (repeatedR rs n) → CallV Try.prog n_law1_List #[a.v] V fun v V' => ∃ r : Sl, v = r.v ∧ NumsAt V' r (exactQ rs n) := fun h => law1_List_spec h hok (by omega)
  have hQ : ∀ {V : View}, RatsAt V a (repeatedR rs n) → CallV Try.prog n_waveportlaw07_refList #[a.v] V fun v V' => ∃ r : Sl, v = r.v ∧ QsAt V' r (exactQ rs n) := fun h => refList_spec h hok (by omega)
  generalize exactQ rs n = zs at hzl hzs hN hQ
  have hdz := ratQ_sz hd
  refine (hN ha).mono fun v V2 l2 ⟨x, hv, hx⟩ => ⟨x, hv, ?_⟩
  have S1 : CallV Try.prog n_transform_Shift_num_Num_ #[x.v, .int .i64 b] V2 fun v V' => ∃ (r : Sl) (e : Int), v = .tuple #[r.v, .int .i64 e] ∧ e = (if n ≤ 64 then 0 else 4) ∧ NumsAt V' r (if n ≤ 64 then shiftF zs b else []) := by
    by_cases c : n ≤ 64
    · simp only [if_pos c]
      exact (Shift_spec hx (by omega)).mono fun v V' _ ⟨r, hv, hr⟩ => ⟨r, 0, hv, rfl, hr⟩
    · simp only [if_neg c]
      exact (Shift_long hx (by omega)).mono fun v V' _ ⟨r, hv, hr⟩ => ⟨r, 4, hv, rfl, hr⟩
  refine S1.mono fun v V3 l3 ⟨r4, e5, hv, he5, h4⟩ => ⟨r4, e5, hv, ?_⟩
  refine (hQ (ha.le (View.le_trans l2 l3))).mono fun v V4 l4 ⟨r6, hv, h6⟩ => ⟨r6, hv, ?_⟩
  have S2 : CallV Try.prog n_waveportref07_Shift #[r6.v, .int .i64 b] V4 fun v V' => ∃ (r : Sl) (e : Int), v = .tuple #[r.v, .int .i64 e] ∧ e = (if n ≤ 64 then 0 else 4) ∧ QsAt V' r (if n ≤ 64 then shiftF zs b else []) := by
    by_cases c : n ≤ 64
    · simp only [if_pos c]
      exact (refShift_spec h6 (by omega)).mono fun v V' _ ⟨r, hv, hr⟩ => ⟨r, 0, hv, rfl, hr⟩
    · simp only [if_neg c]
      exact (refShift_long h6 (by omega)).mono fun v V' _ ⟨r, hv, hr⟩ => ⟨r, 4, hv, rfl, hr⟩
  refine S2.mono fun v V5 l5 ⟨r7, e8, hv, he8, h7⟩ => ⟨r7, e8, hv, ?_⟩
  have hee : e8 = e5 := by rw [he8, he5]
  subst hee
  have sh1 : (if n ≤ 64 then shiftF zs b else []).length ≤ 2 ^ 40 := by
    split
    · rw [shiftF_length]; omega
    · simp
  have sh2 : ∀ i, i < (if n ≤ 64 then shiftF zs b else []).length → (nth (if n ≤ 64 then shiftF zs b else []) i).sz ≤ 2 ^ 40 := by
    intro i hi
    split at hi
    · rename_i c
      rw [if_pos c]
      rw [shiftF_length] at hi
      rw [shiftF_nth hi]
      have := hzs (preP zs.length (modB b zs.length) i) (by have := preP_lt (modB_lt b (n := zs.length) (by omega)) hi; omega)
      omega
    · simp at hi
  refine (answers_spec (h4.le (View.le_trans l4 l5)) h7 sh1 sh2).mono fun v V6 l6 hv => ⟨_, hv, fun h => absurd h (by simp), fun _ => ?_⟩
  have L6 : View.le V1 V6 := View.le_trans l2 (View.le_trans l3 (View.le_trans l4 (View.le_trans l5 l6)))
  refine (hN (ha.le L6)).mono fun v V7 l7 ⟨r10, hv, h10⟩ => ⟨r10, hv, ?_⟩
  refine (law1_Of_spec hd).mono fun v V8 l8 ⟨r11, hv, h11⟩ => ⟨r11, hv, ?_⟩
  have S3 : CallV Try.prog n_transform_Extend_num_Num_ #[r10.v, r11.val] V8 fun v V' => ∃ (r : Sl) (e : Int), v = .tuple #[r.v, .int .i64 e] ∧ e = (if lenB (2 * (n + 1)) = true then 0 else 4) ∧ NumsAt V' r (if lenB (2 * (n + 1)) = true then extendF zs (ratQ d) else []) := by
    by_cases c : lenB (2 * (n + 1)) = true
    · simp only [if_pos c]
      exact (Extend_spec (h10.le l8) h11 (by rw [hzl]; exact c)).mono fun v V' _ ⟨r, hv, hr⟩ => ⟨r, 0, hv, rfl, hr⟩
    · simp only [if_neg c]
      exact (Extend_long (h10.le l8) (by omega) (by rw [hzl]; simpa using c)).mono fun v V' _ ⟨r, hv, hr⟩ => ⟨r, 4, hv, rfl, hr⟩
  refine S3.mono fun v V9 l9 ⟨r12, e13, hv, he13, h12⟩ => ⟨r12, e13, hv, ?_⟩
  have L9 : View.le V1 V9 := View.le_trans L6 (View.le_trans l7 (View.le_trans l8 l9))
  refine (hQ (ha.le L9)).mono fun v V10 l10 ⟨r14, hv, h14⟩ => ⟨r14, hv, ?_⟩
  refine (ref1_Of_spec hd).mono fun v V11 l11 ⟨r15, hv, h15⟩ => ⟨r15, hv, ?_⟩
  have S4 : CallV Try.prog n_waveportref07_Extend #[r14.v, r15.val] V11 fun v V' => ∃ (r : Sl) (e : Int), v = .tuple #[r.v, .int .i64 e] ∧ e = (if lenB (2 * (n + 1)) = true then 0 else 4) ∧ QsAt V' r (if lenB (2 * (n + 1)) = true then extendF zs (ratQ d) else []) := by
    by_cases c : lenB (2 * (n + 1)) = true
    · simp only [if_pos c]
      exact (refExtend_spec (h14.le l11) h15 (by rw [hzl]; exact c)).mono fun v V' _ ⟨r, hv, hr⟩ => ⟨r, 0, hv, rfl, hr⟩
    · simp only [if_neg c]
      exact (refExtend_long (h14.le l11) (by omega) (by rw [hzl]; simpa using c)).mono fun v V' _ ⟨r, hv, hr⟩ => ⟨r, 4, hv, rfl, hr⟩
  refine S4.mono fun v V12 l12 ⟨r16, e17, hv, he17, h16⟩ => ⟨r16, e17, hv, ?_⟩
  have hee2 : e17 = e13 := by rw [he17, he13]
  subst hee2
  have L12 : View.le V9 V12 := View.le_trans l10 (View.le_trans l11 l12)
  refine (hN (ha.le (View.le_trans L9 L12))).mono fun v V13 l13 ⟨r18, hv, h18⟩ => ⟨r18, hv, ?_⟩
  have S5 : CallV Try.prog n_transform_Zero_num_Num_ #[r18.v] V13 fun v V' => ∃ (r : NumV) (e : Int), v = .tuple #[r.val, .int .i64 e] ∧ e = (if 2 ≤ n ∧ n ≤ 64 then 0 else 4) ∧ NumAt V' r (if 2 ≤ n ∧ n ≤ 64 then zeroEst zs else Cq.zero) := by
    by_cases c : 2 ≤ n ∧ n ≤ 64
    · simp only [if_pos c]
      exact (Zero_spec (S := 5) h18 (by omega) (by omega) (hzs 0 (by omega)) (hzs 1 (by omega)) (by omega)).mono fun v V' _ ⟨r, hv, hr⟩ => ⟨r, 0, hv, rfl, hr⟩
    · simp only [if_neg c]
      exact (Zero_bad h18 (by omega)).mono fun v V' _ ⟨r, hv, hr⟩ => ⟨r, 4, hv, rfl, hr⟩
  refine S5.mono fun v V14 l14 ⟨r19, e20, hv, he20, h19⟩ => ⟨r19, e20, hv, ?_⟩
  refine (hQ (ha.le (View.le_trans L9 (View.le_trans L12 (View.le_trans l13 l14))))).mono fun v V15 l15 ⟨r21, hv, h21⟩ => ⟨r21, hv, ?_⟩
  have S6 : CallV Try.prog n_waveportref07_Zero #[r21.v] V15 fun v V' => ∃ (r : NumV) (e : Int), v = .tuple #[r.val, .int .i64 e] ∧ e = (if 2 ≤ n ∧ n ≤ 64 then 0 else 4) ∧ QAt V' r (if 2 ≤ n ∧ n ≤ 64 then zeroEst zs else Cq.zero) := by
    by_cases c : 2 ≤ n ∧ n ≤ 64
    · simp only [if_pos c]
      exact (refZero_spec (S := 5) h21 (by omega) (by omega) (hzs 0 (by omega)) (hzs 1 (by omega)) (by omega)).mono fun v V' _ ⟨r, hv, hr⟩ => ⟨r, 0, hv, rfl, hr⟩
    · simp only [if_neg c]
      exact (refZero_bad h21 (by omega)).mono fun v V' _ ⟨r, hv, hr⟩ => ⟨r, 4, hv, rfl, hr⟩
  refine S6.mono fun v V16 l16 ⟨r22, e23, hv, he23, h22⟩ => ⟨r22, e23, hv, ?_⟩
  have hee3 : e23 = e20 := by rw [he23, he20]
  subst hee3
  have x1 : (if lenB (2 * (n + 1)) = true then extendF zs (ratQ d) else []).length ≤ 2 ^ 40 := by
    split
    · simp [extendF]; omega
    · simp
  have x2 : ∀ i, i < (if lenB (2 * (n + 1)) = true then extendF zs (ratQ d) else []).length → (nth (if lenB (2 * (n + 1)) = true then extendF zs (ratQ d) else []) i).sz ≤ 2 ^ 40 := by
    intro i hi
    split at hi
    · rename_i c
      rw [if_pos c]
      have hi : i < 2 * (zs.length + 1) := by simpa [extendF] using hi
      have e : nth (extendF zs (ratQ d)) i = extendP zs (ratQ d) i := nth_map hi _
      rw [e]
      unfold extendP
      split
      · omega
      · split
        · have := Cq.sz_zero; omega
        · split
          · have := hzs (i - 1) (by omega); omega
          · rw [Cq.sz_conj]
            have := hzs (2 * (zs.length + 1) - i - 1) (by omega); omega
    · simp at hi
  have L16 : View.le V9 V16 := View.le_trans L12 (View.le_trans l13 (View.le_trans l14 (View.le_trans l15 l16)))
  refine (answers_spec (h12.le L16) (h16.le (View.le_trans l13 (View.le_trans l14 (View.le_trans l15 l16)))) x1 x2).mono fun v V17 l17 hv => ⟨_, hv, fun _ => ⟨fun _ => ?_, fun h => absurd h (by simp)⟩, fun h => absurd h (by simp)⟩
  have z1 : (if 2 ≤ n ∧ n ≤ 64 then zeroEst zs else Cq.zero).sz ≤ 2 ^ 40 := by
    split
    · have := zeroEst_sz (hzs 0 (by omega)) (hzs 1 (by omega)); omega
    · have := Cq.sz_zero; omega
  refine (law1_Is_spec (h19.le (View.le_trans l15 (View.le_trans l16 l17))) (h22.le l17) z1).mono fun v V18 l18 hv => ⟨_, hv, fun _ => ?_, fun h => absurd h (by simp)⟩
  exact awake_spec.mono fun v V11 _ hv => ⟨_, hv, rfl⟩
end Go.Proofs.Ytcapadojlaojkaa
