/- What gates come to, and the call of TransformGated returns true. -/
import Derived.Test.YtnbjnokgmeamdaaCBackL
import Derived.Test.YtnbjnokgmeamdaaVGate
import Derived.Test.YtnbjnokgmeamdaaFGate
namespace Go.Proofs.Ytnbjnokgmeamdaa
open Go Go.Vc Go.Proofs

def boolC (_ : View) (x : List Value) (b : Bool) : Prop := x = [.bool b]
theorem boolC_mk (V : View) (b : Bool) : boolC V [.bool b] b := rfl
def BoolsAt (V : View) (s : Sl) (bs : List Bool) : Prop := ListAt 1 boolC V s bs
theorem BoolsAt.le {V V' : View} (hle : V.le V') {s : Sl} {bs : List Bool} (h : BoolsAt V s bs) : BoolsAt V' s bs := ListAt.le (P := boolC) (V := V) (V' := V') (fun _ _ h => h) hle h
theorem bool_load {V : View} {p : Option Addr} {v : Value} (h : V.has p [v]) : V.load p = some v := by
  have := h 0 v rfl
  cases p with
  | none => exact this
  | some a => simpa [Addr.add] using this

theorem within_spec {V : View} {g : GateV} {n : Nat} (hg : gateOk g n) (hn : n ≤ 64) :
    CallV Try.prog n_transform_within #[g.val, .int .i64 (n : Int)] V fun v V' => ∃ r : Sl, v = r.v ∧ BoolsAt V' r (gList n g.from_.toNat g.count.toNat) := by
  obtain ⟨h1, h2, h3, h4⟩ := hg
  have hf : g.from_.toNat < n := by omega
  refine transform_within_vc g (n : Int) V _ (fun _ x V' => 0 ≤ x.t11 ∧ x.t11 ≤ g.count ∧ Cells 1 boolC V' x.o8 (gList n g.from_.toNat x.t11.toNat)) (fun _ x _ => (g.count - x.t11).toNat) ⟨⟨by omega, by omega, by omega, by omega⟩, ⟨Int.le_refl 0, h3, ?_⟩, ?_⟩
  · rw [Int.toNat_natCast]
    show Cells 1 boolC V _ (gList n g.from_.toNat 0)
    rw [gList_zero]
    exact Cells.replicate rfl (boolC_mk V false) n
  rintro ⟨t, o⟩ V1 l1 ⟨h0, ht, hin⟩
  dsimp only at h0 ht hin ⊢
  rw [Int.toNat_natCast]
  refine ⟨fun hlt => ?_, fun hge => ?_⟩
  · simp only [decide_eq_true_eq] at hlt
    have e1 : IntKind.i64.wrap (t + 1) = t + 1 := i64w (by omega) (by omega)
    have e2 : (t + 1).toNat = t.toNat + 1 := by omega
    have e3 : Int.tmod (IntKind.i64.wrap (g.from_ + t)) (n : Int) = (((g.from_.toNat + t.toNat) % n : Nat) : Int) := by
      rw [i64w (by omega) (by omega), Int.tmod_eq_emod_of_nonneg (by omega)]
      have : g.from_ + t = ((g.from_.toNat + t.toNat : Nat) : Int) := by omega
      rw [this]; rfl
    have hm : (g.from_.toNat + t.toNat) % n < n := Nat.mod_lt _ (by omega)
    rw [e3, e1, Int.toNat_natCast]
    have hgl : (gList n g.from_.toNat t.toNat).length = n := by simp [gList]
    refine ⟨by omega, ⟨by omega, by omega⟩, Cells.room hin (by rw [hgl]; exact hm), ⟨by omega, by omega, ?_⟩, by omega⟩
    rw [e2, ← gList_set hf (by omega)]
    exact Cells.set0 hin (by rw [hgl]; exact hm) rfl (boolC_mk V1 true)
  · simp only [decide_eq_false_iff_not] at hge
    intro b V2 l2 hb
    have e : t = g.count := by omega
    rw [e] at hin
    exact ⟨_, rfl, ListAt.of_made hb (Cells.imp (P := boolC) (V := V1) (P' := boolC) (V' := V2) (fun _ _ h => h) hin) (by simp [gList])⟩

theorem Cut_spec {V : View} {s : Sl} {g : GateV} {zs : List Cq} (h : NumsAt V s zs) (hl : lenB zs.length = true) (hg : gateOk g zs.length) :
    CallV Try.prog n_transform_Cut_num_Num_ #[s.v, g.val] V fun v V' => ∃ r : Sl, v = .tuple #[r.v, .int .i64 0] ∧ NumsAt V' r (cutF zs (inG zs.length g.from_.toNat g.count.toNat)) := by
  have hb := lenB_le hl
  have hsl := h.len
  let f : Nat → Cq := fun k => if inG zs.length g.from_.toNat g.count.toNat k = true then nth zs k else Cq.zero
  refine transform_Cut_num_Num__vc s g V _ (fun _ x V' => 0 ≤ x.t25 ∧ x.t25 ≤ zs.length ∧ NumsIn V' x.o19 (filled zs.length x.t25.toNat f)) (fun _ x _ => zs.length - x.t25.toNat) ?_
  rw [hsl]
  refine (transform_valid_ok hl hg).mono fun v V1 l1 hv => ⟨_, hv, fun h => absurd h (by simp), fun _ => ⟨⟨by omega, by omega, by omega, by omega⟩, ?_⟩⟩
  refine (within_spec hg hb.2).mono fun v V2 l2 ⟨r2, hv, h2⟩ => ⟨r2, hv, ⟨Int.le_refl 0, Int.natCast_nonneg _, ?_⟩, ?_⟩
  · rw [Int.toNat_natCast]
    show NumsIn V2 _ (filled zs.length 0 f)
    rw [filled_zero]; exact NumsIn.zeros _ _
  have hl2 : r2.len = zs.length := by have := h2.len; simpa [gList] using this
  rintro ⟨t, o⟩ V3 l3 ⟨h0, ht, ho⟩
  dsimp only at h0 ht ho ⊢
  rw [Int.toNat_natCast, hl2]
  refine ⟨fun hlt => ?_, fun hge => ?_⟩
  · simp only [decide_eq_true_eq] at hlt
    have hk : t.toNat < zs.length := by omega
    have hfl : (filled zs.length t.toNat f).length = zs.length := filled_length (by omega) _
    have e1 : IntKind.i64.wrap (t + 1) = t + 1 := i64w (by omega) (by omega)
    have e2 : (t + 1).toNat = t.toNat + 1 := by omega
    obtain ⟨hb3, x, hx, _, hh, _⟩ := ListAt.get (h2.le l3) h0 (z := inG zs.length g.from_.toNat g.count.toNat t.toNat) (by simp [gList, hk])
    rw [hl2] at hb3
    refine ⟨hb3, inG zs.length g.from_.toNat g.count.toNat t.toNat, bool_load (by rw [show x = _ from hx] at hh; exact hh), ?_⟩
    refine (of_spec (p := 0) (q := 1) (by decide) (by decide) (by decide) (by decide) (by decide)).mono fun v V4 l4 ⟨r3, hv, h3⟩ => ⟨r3, hv, ⟨h0, hlt⟩, Cells.room ho (by rw [hfl]; exact hk), fun hin => ?_, fun hin => ?_⟩
    · obtain ⟨hb4, x4, hx4, hs4, hn4⟩ := (h.le (View.le_trans l1 (View.le_trans l2 (View.le_trans l3 l4)))).get h0 hk
      rw [hsl] at hb4
      have s1 := (ho.le l4).set (i := t.toNat) (by rw [hfl]; exact hk) h3
      have s2 := s1.set (i := t.toNat) (by rw [List.length_set, hfl]; exact hk) hn4
      rw [List.set_set] at s2
      have ef : nth zs t.toNat = f t.toNat := by simp only [f]; rw [if_pos hin]
      rw [ef, filled_set hk] at s2
      rw [e1]
      exact ⟨hb4, x4, hx4, hs4, ⟨h0, hlt⟩, Cells.room s1 (by rw [List.length_set, hfl]; exact hk), ⟨by omega, by omega, by rw [e2]; exact s2⟩, by omega⟩
    · have s1 := (ho.le l4).set (i := t.toNat) (by rw [hfl]; exact hk) h3
      have e0 : (⟨((0 : Int) : Rat) / ((1 : Int) : Rat), ((0 : Int) : Rat) / ((1 : Int) : Rat)⟩ : Cq) = Cq.zero := Cq.ext' (by simp [Rat.div_def]; rfl) (by simp [Rat.div_def]; rfl)
      have ef : Cq.zero = f t.toNat := by simp only [f]; rw [if_neg (by rw [hin]; simp)]
      rw [e0, ef, filled_set hk] at s1
      rw [e1]
      exact ⟨⟨by omega, by omega, by rw [e2]; exact s1⟩, by omega⟩
  · simp only [decide_eq_false_iff_not] at hge
    intro b V5 l5 hb5
    have e : t.toNat = zs.length := by omega
    rw [e, filled_all] at ho
    exact ⟨_, rfl, ListAt.of_made (zs := cutF zs (inG zs.length g.from_.toNat g.count.toNat)) hb5 (ho.le l5) (by rw [cutF_length])⟩

theorem plus_spec {V : View} {p q : Sl} {a b : List Cq} (hp : NumsAt V p a) (hq : NumsAt V q b) (hn : a.length ≤ 2 ^ 32) (hb : 1 ≤ b.length) (hA : ∀ i, i < a.length → (nth a i).sz ≤ 2 ^ 40) (hB : ∀ i, i < b.length → (nth b i).sz ≤ 2 ^ 40) :
    CallV Try.prog n_waveportlaw07_plus #[p.v, q.v] V fun v V' => ∃ r : Sl, v = r.v ∧ NumsAt V' r (plusF a b) := by
  have hpl := hp.len
  have hql := hq.len
  refine waveportlaw07_plus_vc p q V _ (fun _ x V' => 0 ≤ x.t12 ∧ x.t12 ≤ a.length ∧ NumsIn V' x.o9 (filled a.length x.t12.toNat fun i => nth a i + nth b (i % b.length))) (fun _ x _ => a.length - x.t12.toNat) ⟨⟨by omega, by omega, by omega, by omega⟩, ⟨Int.le_refl 0, Int.natCast_nonneg _, ?_⟩, ?_⟩
  · rw [Int.toNat_natCast, hpl]
    show NumsIn V _ (filled a.length 0 _)
    rw [filled_zero]; exact NumsIn.zeros _ _
  rintro ⟨t, o⟩ V1 l1 ⟨h0, ht, ho⟩
  dsimp only at h0 ht ho ⊢
  rw [Int.toNat_natCast, hpl, hql]
  refine ⟨fun hlt => ?_, fun hge => ?_⟩
  · simp only [decide_eq_true_eq] at hlt
    have hk : t.toNat < a.length := by omega
    have hfl : (filled a.length t.toNat fun i => nth a i + nth b (i % b.length)).length = a.length := filled_length (by omega) _
    have e1 : IntKind.i64.wrap (t + 1) = t + 1 := i64w (by omega) (by omega)
    have e2 : (t + 1).toNat = t.toNat + 1 := by omega
    have hml : t.toNat % b.length < b.length := Nat.mod_lt _ (by omega)
    have hm : Int.tmod t (b.length : Int) = ((t.toNat % b.length : Nat) : Int) := by
      rw [Int.tmod_eq_emod_of_nonneg h0]
      conv => lhs; rw [← Int.toNat_of_nonneg h0]
      rfl
    rw [hm]
    obtain ⟨hb3, x3, hx3, hs3, hn3⟩ := (hp.le l1).get h0 hk
    obtain ⟨hb4, x4, hx4, hs4, hn4⟩ := (hq.le l1).get (t := ((t.toNat % b.length : Nat) : Int)) (Int.natCast_nonneg _) (by rw [Int.toNat_natCast]; exact hml)
    rw [hpl] at hb3
    rw [hql] at hb4
    rw [Int.toNat_natCast] at hn4
    refine ⟨hb3, x3, hx3, hs3, by omega, hb4, x4, hx4, hs4, (Num_Add_spec hn3 hn4 (hA _ hk) (hB _ hml)).mono fun v V2 l2 ⟨r, hv, hr⟩ => ⟨r, hv, ⟨h0, hlt⟩, Cells.room ho (by rw [hfl]; exact hk), ?_⟩⟩
    rw [e1]
    refine ⟨⟨by omega, by omega, ?_⟩, by omega⟩
    rw [e2, ← filled_set hk]
    exact (ho.le l2).set (by rw [hfl]; exact hk) hr
  · simp only [decide_eq_false_iff_not] at hge
    intro b' V3 l3 hb'
    have e : t.toNat = a.length := by omega
    rw [e, filled_all] at ho
    exact ⟨_, rfl, ListAt.of_made (zs := plusF a b) hb' (ho.le l3) (by rw [plusF_length])⟩

/-- The back transform. -/
def backM (m : Nat) (zs : List Cq) : List Cq := sharesF (stageF m zs (conjF (onesF m)))
theorem backM_length (m : Nat) (zs : List Cq) : (backM m zs).length = 2 ^ m := by unfold backM; rw [sharesF_length, stageF_length]
def gatedM (m : Nat) (zs : List Cq) (B : Nat → Bool) : List Cq := stageF m (cutF (backM m zs) B) (onesF m)
theorem backM_sz {m : Nat} (hm : m ≤ 2) {zs : List Cq} (h : zs.length = 2 ^ m) (S : Nat) (hS : ∀ i, i < 2 ^ m → (nth zs i).sz ≤ S) : ∀ i, i < 2 ^ m → (nth (backM m zs) i).sz ≤ 4 * (S + 6) + 9 := by
  have hol := onesF_length hm
  have hcl : (conjF (onesF m)).length = 2 ^ m := by rw [conjF_length, hol]
  have hcs := conjF_sz (onesF m) 4 (by rw [hol]; exact onesF_sz hm)
  rw [hol] at hcs
  have hbs := stageF_sz m zs (conjF (onesF m)) S 4 h hcl hS hcs
  have hbl := stageF_length m zs (conjF (onesF m))
  have hp4 : 2 ^ m ≤ 4 := by
    have : 2 ^ m ≤ 2 ^ 2 := Nat.pow_le_pow_right (by omega) hm
    omega
  have hmul : 2 ^ m * (S + 4 + 2) ≤ 4 * (S + 4 + 2) := Nat.mul_le_mul_right _ hp4
  have := sharesF_sz (stageF m zs (conjF (onesF m))) (4 * (S + 6)) (by rw [hbl]; omega) (by rw [hbl]; intro i hi; have := hbs i hi; omega)
  rw [hbl] at this
  exact this
theorem gatedM_sz {m : Nat} (hm : m ≤ 2) {zs : List Cq} (h : zs.length = 2 ^ m) (B : Nat → Bool) (S : Nat) (hS : ∀ i, i < 2 ^ m → (nth zs i).sz ≤ S) : ∀ i, i < 2 ^ m → (nth (gatedM m zs B) i).sz ≤ 4 * (4 * (S + 6) + 9 + 6) := by
  have hbl := backM_length m zs
  have hcz := cutF_sz (backM m zs) B (4 * (S + 6) + 9) (by omega) (by rw [hbl]; exact backM_sz hm h S hS)
  rw [hbl] at hcz
  have hp4 : 2 ^ m ≤ 4 := by
    have : 2 ^ m ≤ 2 ^ 2 := Nat.pow_le_pow_right (by omega) hm
    omega
  have := stageF_sz m (cutF (backM m zs) B) (onesF m) (4 * (S + 6) + 9) 4 (by rw [cutF_length, hbl]) (onesF_length hm) hcz (onesF_sz hm)
  have hmul : 2 ^ m * (4 * (S + 6) + 9 + 4 + 2) ≤ 4 * (4 * (S + 6) + 9 + 4 + 2) := Nat.mul_le_mul_right _ hp4
  intro i hi
  have := this i hi
  unfold gatedM
  omega

theorem Gated_spec {V : View} {p w : Sl} {g : GateV} {m : Nat} {zs : List Cq} (S : Nat) (hm : m ≤ 2) (hz : zs.length = 2 ^ m) (hp : NumsAt V p zs) (hq : NumsAt V w (onesF m)) (hS : ∀ i, i < 2 ^ m → (nth zs i).sz ≤ S) (hSb : S ≤ 2 ^ 20) (hg : gateOk g ((2 ^ m : Nat) : Int)) :
    CallV Try.prog n_transform_Gated_num_Num_ #[p.v, w.v, g.val] V fun v V' => ∃ r : Sl, v = .tuple #[r.v, .int .i64 0] ∧ NumsAt V' r (gatedM m zs (inG (2 ^ m) g.from_.toNat g.count.toNat)) := by
  have hol := onesF_length hm
  have hos := onesF_sz hm
  have hlen : lenB (2 ^ m) = true := lenB_pow m (by simp; omega)
  have hp4 : 2 ^ m ≤ 4 := by
    have : 2 ^ m ≤ 2 ^ 2 := Nat.pow_le_pow_right (by omega) hm
    omega
  have hbl := backM_length m zs
  refine transform_Gated_num_Num__vc p w g V _ ((FastBack_spec S 4 (by omega) hz hol hp hq hS hos (by omega)).mono fun v V1 l1 ⟨u, hv, hu⟩ => ⟨u, 0, hv, fun h => absurd h (by simp), fun _ => ?_⟩)
  have hu : NumsAt V1 u (backM m zs) := hu
  have hc := Cut_spec hu (by rw [hbl]; exact hlen) (by rw [hbl]; exact hg)
  rw [hbl] at hc
  refine hc.mono fun v V2 l2 ⟨c, hv, hc⟩ => ⟨c, 0, hv, fun h => absurd h (by simp), fun _ => ?_⟩
  have hcz := cutF_sz (backM m zs) (inG (2 ^ m) g.from_.toNat g.count.toNat) (4 * (S + 6) + 9) (by omega) (by rw [hbl]; exact backM_sz hm hz S hS)
  rw [hbl] at hcz
  have hmul : 2 ^ m * (4 * (S + 6) + 9 + 4 + 2) ≤ 4 * (4 * (S + 6) + 9 + 4 + 2) := Nat.mul_le_mul_right _ hp4
  exact (transform_Fast_spec (4 * (S + 6) + 9) 4 (by omega) (by rw [cutF_length, hbl]) hol hc (hq.le (View.le_trans l1 l2)) hcz hos (by omega)).mono fun v V3 l3 ⟨r, hv, hr⟩ => ⟨r, 0, hv, r, rfl, hr⟩
end Go.Proofs.Ytnbjnokgmeamdaa
