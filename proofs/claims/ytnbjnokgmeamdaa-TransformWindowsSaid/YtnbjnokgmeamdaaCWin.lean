/- What a window's weights come to, and the law of the windows. -/
import Derived.Test.YtnbjnokgmeamdaaCTr2
import Derived.Test.YtnbjnokgmeamdaaFWin
namespace Go.Proofs.Ytnbjnokgmeamdaa
open Go Go.Vc Go.Proofs

/-- The distance from the middle, twice. -/
def winA (n k : Nat) : Int := if (n : Int) - 1 - 2 * k > 2 * k - n + 1 then (n : Int) - 1 - 2 * k else 2 * k - n + 1
def winD (n k : Nat) : Cq := ⟨((winA n k : Int) : Rat) / (((n : Int) + 1 : Int) : Rat), ((0 : Int) : Rat) / (((n : Int) + 1 : Int) : Rat)⟩
def winQ (kind : Int) (n k : Nat) : Cq := if kind = 0 then ⟨1, 0⟩ else if kind = 1 then ⟨1, 0⟩ - winD n k else ⟨1, 0⟩ - winD n k * winD n k
def winT (n k : Nat) : Rat := ((winA n k : Int) : Rat) / (((n : Int) + 1 : Int) : Rat)
def winR (kind : Int) (n k : Nat) : Rat := if kind = 0 then 1 else if kind = 1 then 1 - winT n k else 1 - winT n k * winT n k

theorem winA_bounds {n k : Nat} (hk : k < n) : 0 ≤ winA n k ∧ winA n k < n + 1 := by unfold winA; split <;> omega
theorem winA_sym {n k : Nat} (hk : k < n) : winA n (n - 1 - k) = winA n k := by unfold winA; split <;> split <;> omega
theorem winD_eq (n k : Nat) : winD n k = ⟨winT n k, 0⟩ := Cq.ext' rfl (by simp only [winD]; rw [Rat.div_def]; simp)
theorem winQ_eq (kind : Int) (n k : Nat) : winQ kind n k = ⟨winR kind n k, 0⟩ := by
  unfold winQ winR
  split
  · rfl
  · split
    · rw [winD_eq]; exact Cq.ext' (by rw [Cq.sub_re]) (by rw [Cq.sub_im]; simp only []; grind)
    · rw [winD_eq]; exact Cq.ext' (by rw [Cq.sub_re, Cq.mul_re]; simp only []; grind) (by rw [Cq.sub_im, Cq.mul_im]; simp only []; grind)
theorem winT_bounds {n k : Nat} (hk : k < n) : 0 ≤ winT n k ∧ winT n k < 1 := by
  obtain ⟨h1, h2⟩ := winA_bounds hk
  have p : (0 : Rat) < (((n : Int) + 1 : Int) : Rat) := Rat.intCast_pos.2 (by omega)
  have a0 : (0 : Rat) ≤ ((winA n k : Int) : Rat) := by
    have := Rat.intCast_le_intCast.2 h1
    simpa using this
  have a1 : ((winA n k : Int) : Rat) < (((n : Int) + 1 : Int) : Rat) := Rat.intCast_lt_intCast.2 h2
  unfold winT
  refine ⟨?_, ?_⟩
  · rw [Rat.div_def]; exact Rat.mul_nonneg a0 (Rat.le_of_lt (Rat.inv_pos.2 p))
  · rw [Rat.div_lt_iff p]; simpa using a1
theorem winR_bounds (kind : Int) {n k : Nat} (hk : k < n) : 0 < winR kind n k ∧ winR kind n k ≤ 1 := by
  obtain ⟨h0, h1⟩ := winT_bounds hk
  unfold winR
  split
  · exact ⟨by grind, by grind⟩
  · split
    · exact ⟨by grind, by grind⟩
    · have h2 : 0 ≤ winT n k * winT n k := Rat.mul_nonneg h0 h0
      have h3 : winT n k * winT n k < 1 := by
        have : winT n k * winT n k ≤ winT n k * 1 := Rat.mul_le_mul_of_nonneg_left (Rat.le_of_lt h1) h0
        grind
      exact ⟨by grind, by grind⟩
theorem winR_sym (kind : Int) {n k : Nat} (hk : k < n) : winR kind n (n - 1 - k) = winR kind n k := by
  unfold winR winT; rw [winA_sym hk]
theorem winD_sz {n k : Nat} (hk : k < n) (hn : n ≤ 64) : (winD n k).sz ≤ 64 := by
  have h := winA_bounds hk
  have hr : Rep (winD n k) (winA n k) 0 (n + 1) := ⟨by omega, by simp only [winD]; push_cast; rfl, by simp only [winD]; push_cast; rfl⟩
  refine hr.sz ?_ ?_ ?_
  · exact bl_le_of_lt (by omega)
  · exact bl_le_of_lt (by simp)
  · exact bl_le_of_lt (by omega)
theorem one_sz : (⟨1, 0⟩ : Cq).sz ≤ 4 := by decide +kernel
theorem winQ_sz (kind : Int) {n k : Nat} (hk : k < n) (hn : n ≤ 64) : (winQ kind n k).sz ≤ 200 := by
  have h := winD_sz hk hn
  have h1 := one_sz
  have h2 := Cq.sz_mul (winD n k) (winD n k)
  have h3 := Cq.sz_sub ⟨1, 0⟩ (winD n k)
  have h4 := Cq.sz_sub ⟨1, 0⟩ (winD n k * winD n k)
  unfold winQ
  split
  · omega
  · split <;> omega

theorem transform_Window_spec {V : View} {kind : Int} {n : Nat} (hk : kind = 0 ∨ kind = 1 ∨ kind = 2) (h1 : 1 ≤ n) (hn : n ≤ 64) :
    CallV Try.prog n_transform_Window #[.int .i64 kind, .int .i64 (n : Int)] V fun v V' => ∃ r : Sl, v = .tuple #[r.v, .int .i64 0] ∧ NumsAt V' r ((List.range n).map (winQ kind n)) := by
  refine transform_Window_vc kind (n : Int) V _ (fun _ _ _ => True) (fun _ x V' => 0 ≤ x.t34 ∧ x.t34 ≤ n ∧ NumsIn V' x.o31 (filled n x.t34.toNat (winQ kind n))) (fun _ x _ => n - x.t34.toNat) ⟨⟨fun h => ?_, fun _ => ⟨fun h => ?_, fun _ => ?_⟩⟩, ?_⟩
  · exfalso; simp at h; omega
  · exfalso; simp at h; omega
  · rcases hk with rfl | rfl | rfl <;> simp
  intro _ V1 l1 _
  refine (num_Int_spec (by omega) (by omega)).mono fun v V2 l2 ⟨r1, hv, hr1⟩ => ⟨r1, hv, ⟨by omega, by omega, by omega, by omega⟩, ⟨Int.le_refl 0, Int.natCast_nonneg _, ?_⟩, ?_⟩
  · rw [Int.toNat_natCast]
    show NumsIn V2 _ (filled n 0 (winQ kind n))
    rw [filled_zero]; exact NumsIn.zeros _ _
  rw [all4_1] at hr1
  rintro ⟨t, o⟩ V3 l3 ⟨h0, h1', hin⟩
  dsimp only at h0 h1' hin ⊢
  rw [Int.toNat_natCast]
  refine ⟨fun hlt => ?_, fun hge => ?_⟩
  · simp only [decide_eq_true_eq] at hlt
    have hkn : t.toNat < n := by omega
    have e1 : IntKind.i64.wrap (t + 1) = t + 1 := i64w (by omega) (by omega)
    have e2 : (t + 1).toNat = t.toNat + 1 := by omega
    have w1 : IntKind.i64.wrap ((n : Int) - 1) = (n : Int) - 1 := i64w (by omega) (by omega)
    have w2 : IntKind.i64.wrap (2 * t) = 2 * t := i64w (by omega) (by omega)
    have w3 : IntKind.i64.wrap ((n : Int) - 1 - 2 * t) = (n : Int) - 1 - 2 * t := i64w (by omega) (by omega)
    have w4 : IntKind.i64.wrap (2 * t - (n : Int)) = 2 * t - (n : Int) := i64w (by omega) (by omega)
    have w5 : IntKind.i64.wrap (2 * t - (n : Int) + 1) = 2 * t - (n : Int) + 1 := i64w (by omega) (by omega)
    have w6 : IntKind.i64.wrap ((n : Int) + 1) = (n : Int) + 1 := i64w (by omega) (by omega)
    rw [w1, w2, w3, w4, w5, w6]
    have ea : (if (n : Int) - 1 - 2 * t > 2 * t - (n : Int) + 1 then (n : Int) - 1 - 2 * t else 2 * t - (n : Int) + 1) = winA n t.toNat := by
      unfold winA
      rw [Int.toNat_of_nonneg h0]
    rw [ea]
    have hb := winA_bounds hkn
    have step : ∀ {V' : View} {x : NumV}, V3.le V' → NumAt V' x (winQ kind n t.toNat) →
        ((0 : Int) ≤ t ∧ t < (n : Int)) ∧ 0 + t.toNat * 5 + 5 ≤ o.length ∧
        (0 ≤ t + 1 ∧ t + 1 ≤ n ∧ NumsIn V' (setL o (0 + t.toNat * 5) [.bool x.re.neg, x.re.mag.v, .bool x.im.neg, x.im.mag.v, x.under.v]) (filled n (t + 1).toNat (winQ kind n))) ∧ n - (t + 1).toNat < n - t.toNat := by
      intro V' x hle hx
      refine ⟨⟨h0, hlt⟩, Cells.room hin (by rw [filled_length (by omega)]; omega), ⟨by omega, by omega, ?_⟩, by omega⟩
      rw [e2, ← filled_set hkn]
      exact (hin.le hle).set (by rw [filled_length (by omega)]; omega) hx
    have hds := winD_sz hkn hn
    have ho := one_sz
    have hm := Cq.sz_mul (winD n t.toNat) (winD n t.toNat)
    refine (num_New_spec (by omega) (by omega) (by omega) (by omega) (by omega) (by omega) (by omega)).mono fun v V4 l4 ⟨r2, hv, hr2⟩ => ⟨r2, 0, hv, fun k0 => ?_, fun k0 => ⟨fun k1 => ?_, fun k1 => ?_⟩⟩
    · have k0 : kind = 0 := by simpa using k0
      rw [e1]
      refine step l4 ?_
      rw [winQ, if_pos k0]; exact hr1.le (View.le_trans l3 l4)
    · have k0 : kind ≠ 0 := by simpa using k0
      have k1 : kind = 1 := by simpa using k1
      refine (Num_Sub_spec (hr1.le (View.le_trans l3 l4)) hr2 (by omega) (by show (winD n t.toNat).sz ≤ _; omega)).mono fun v V5 l5 ⟨r4, hv, hr4⟩ => ⟨r4, hv, ?_⟩
      rw [e1]
      refine step (View.le_trans l4 l5) ?_
      rw [winQ, if_neg k0, if_pos k1]; exact hr4
    · have k0 : kind ≠ 0 := by simpa using k0
      have k1 : kind ≠ 1 := by simpa using k1
      refine (Num_Mul_spec hr2 hr2 (by show (winD n t.toNat).sz ≤ _; omega) (by show (winD n t.toNat).sz ≤ _; omega)).mono fun v V5 l5 ⟨r5, hv, hr5⟩ => ⟨r5, hv, ?_⟩
      refine (Num_Sub_spec (hr1.le (View.le_trans l3 (View.le_trans l4 l5))) hr5 (by omega) (by show (winD n t.toNat * winD n t.toNat).sz ≤ _; omega)).mono fun v V6 l6 ⟨r6, hv, hr6⟩ => ⟨r6, hv, ?_⟩
      rw [e1]
      refine step (View.le_trans l4 (View.le_trans l5 l6)) ?_
      rw [winQ, if_neg k0, if_neg k1]; exact hr6
  · simp only [decide_eq_false_iff_not] at hge
    intro b V8 l8 hb
    have e : t.toNat = n := by omega
    rw [e, filled_all] at hin
    exact ⟨_, rfl, ListAt.of_made hb (hin.le l8) (by simp)⟩

theorem cmp_pos {z : Cq} {r : Rat} (hz : z = ⟨r, 0⟩) (hr : 0 < r) : z.cmp ⟨((0 : Int) : Rat), 0⟩ = 1 := by
  subst hz
  have e : cmpR r ((0 : Int) : Rat) = 1 := by
    unfold cmpR
    rw [if_neg (by simp; grind), if_neg (by simp; grind)]
  simp only [Cq.cmp, e]
  rfl
theorem cmp_one {z : Cq} {r : Rat} (hz : z = ⟨r, 0⟩) (hr : r ≤ 1) : z.cmp ⟨((1 : Int) : Rat), 0⟩ ≤ 0 := by
  subst hz
  by_cases h : r = 1
  · subst h
    decide +kernel
  · have e : cmpR r ((1 : Int) : Rat) = -1 := by
      unfold cmpR
      rw [if_pos (by simp; grind)]
    simp only [Cq.cmp, e]
    decide

theorem TransformWindows_spec {V : View} {p0 p1 : Int} (a0 : 0 ≤ p0) (a1 : p0 ≤ 255) (b0 : 0 ≤ p1) (b1 : p1 ≤ 255) :
    CallV Try.prog n_waveportlaw07_TransformWindows #[.int .u8 p0, .int .u8 p1] V fun v V' => v = .bool true := by
  obtain ⟨kind, hkind, hk⟩ : ∃ kind, IntKind.i64.wrap (Int.tmod p0 3) = kind ∧ (kind = 0 ∨ kind = 1 ∨ kind = 2) := by
    rw [Int.tmod_eq_emod_of_nonneg a0, i64w (by omega) (by omega)]
    exact ⟨_, rfl, by omega⟩
  obtain ⟨n, hn, h1, hn64⟩ : ∃ n : Nat, IntKind.i64.wrap ((Int.tmod (IntKind.i64.wrap p1) 64) + 1) = n ∧ 1 ≤ n ∧ n ≤ 64 := by
    rw [i64w (n := p1) (by omega) (by omega), Int.tmod_eq_emod_of_nonneg b0, i64w (by omega) (by omega)]
    exact ⟨(p1 % 64 + 1).toNat, by omega, by omega, by omega⟩
  refine waveportlaw07_TransformWindows_vc p0 p1 V _ (fun _ _ _ => True) (fun _ x _ => 0 ≤ x.t32 ∧ x.t32 ≤ n) (fun _ x _ => n - x.t32.toNat) ?_
  rw [hkind, hn]
  refine (transform_Window_spec hk h1 hn64).mono fun v V1 l1 ⟨r, hv, hr⟩ => ⟨r, 0, hv, ⟨fun h => absurd h (by simp), fun _ => ⟨fun h => ?_, fun _ => trivial⟩⟩, ?_⟩
  · exfalso
    have := hr.len
    simp [this] at h
  have hl : r.len = n := by have := hr.len; simpa using this
  intro _ V2 l2 _
  refine ⟨⟨Int.le_refl 0, Int.natCast_nonneg _⟩, ?_⟩
  rintro ⟨t⟩ V3 l3 ⟨h0, ht⟩
  dsimp only at h0 ht ⊢
  refine ⟨fun hlt => ?_, fun hge => awake_spec.mono fun v V4 _ hv => ⟨_, hv, rfl⟩⟩
  simp only [decide_eq_true_eq, hl] at hlt
  have hkn : t.toNat < n := by omega
  have hr3 := hr.le (View.le_trans l2 l3)
  obtain ⟨hb6, x6, hx6, hs6, hn6⟩ := hr3.get h0 (by simp; omega)
  rw [nth_map hkn] at hn6
  have hq := winQ_eq kind n t.toNat
  have hsz := winQ_sz kind hkn hn64
  have hbd := winR_bounds kind hkn
  have e1 : IntKind.i64.wrap (t + 1) = t + 1 := i64w (by omega) (by omega)
  have e2 : IntKind.i64.wrap ((n : Int) - 1) = (n : Int) - 1 := i64w (by omega) (by omega)
  have e3 : IntKind.i64.wrap ((n : Int) - 1 - t) = (n : Int) - 1 - t := i64w (by omega) (by omega)
  have e4 : Int.toNat ((n : Int) - 1 - t) = n - 1 - t.toNat := by omega
  rw [e2, e3]
  refine ⟨hb6, x6, hx6, hs6, (Num_Real_spec hn6).mono fun v V4 l4 hv => ⟨_, hv, fun h => ?_, fun _ => ?_⟩⟩
  · exfalso
    rw [hq] at h
    simp at h
  refine (num_Int_spec (by omega) (by omega)).mono fun v V9 l9 ⟨r8, hv, h8⟩ => ⟨r8, hv, ?_⟩
  have z0 : (⟨((0 : Int) : Rat), 0⟩ : Cq).sz ≤ 2 ^ 40 := by decide +kernel
  have z1 : (⟨((1 : Int) : Rat), 0⟩ : Cq).sz ≤ 2 ^ 40 := by decide +kernel
  refine (Num_Cmp_spec (hn6.le (View.le_trans l4 l9)) h8 (by omega) z0).mono fun v V10 l10 hv => ⟨_, hv, fun h => ?_, fun _ => ?_⟩
  · exfalso
    rw [cmp_pos hq hbd.1] at h
    simp at h
  refine (num_Int_spec (by omega) (by omega)).mono fun v V11 l11 ⟨r9, hv, h9⟩ => ⟨r9, hv, ?_⟩
  have le11 := View.le_trans l4 (View.le_trans l9 (View.le_trans l10 l11))
  refine (Num_Cmp_spec (hn6.le le11) h9 (by omega) z1).mono fun v V12 l12 hv => ⟨_, hv, fun h => ?_, fun _ => ?_⟩
  · exfalso
    have := cmp_one hq hbd.2
    simp only [decide_eq_true_eq] at h
    omega
  have le12 := View.le_trans le11 l12
  obtain ⟨hb7, x7, hx7, hs7, hn7⟩ := (hr3.le le12).get (t := (n : Int) - 1 - t) (by omega) (by rw [e4]; simp; omega)
  rw [e4, nth_map (by omega)] at hn7
  refine ⟨hb7, x7, hx7, hs7, (Num_Same_spec (hn6.le le12) hn7 (by omega) (by have := winQ_sz kind (n := n) (k := n - 1 - t.toNat) (by omega) hn64; omega)).mono fun v V13 l13 hv => ⟨_, hv, fun h => ?_, fun _ => ?_⟩⟩
  · exfalso
    have e : winQ kind n t.toNat = winQ kind n (n - 1 - t.toNat) := by rw [winQ_eq, winQ_eq, winR_sym kind hkn]
    simp [e] at h
  · rw [e1]
    exact ⟨⟨by omega, by omega⟩, by show n - (t + 1).toNat < n - t.toNat; omega⟩
end Go.Proofs.Ytnbjnokgmeamdaa
