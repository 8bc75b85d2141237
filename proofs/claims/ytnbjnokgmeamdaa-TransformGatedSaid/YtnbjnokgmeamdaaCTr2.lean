/- What Exact, Fast, Rest and Text come to, and the example of the chapter. -/
import Derived.Test.YtnbjnokgmeamdaaCTr1
import Derived.Test.YtnbjnokgmeamdaaFText
namespace Go.Proofs.Ytnbjnokgmeamdaa
open Go Go.Vc Go.Proofs

/-- The fourth roots of one. -/
def all4 : List Cq := [⟨1, 0⟩, ⟨0, -1⟩, ⟨-1, 0⟩, ⟨0, 1⟩]
def rootsQ (n : Nat) : List Cq := (List.range n).map fun j => nth all4 (4 / n * j)

theorem all4_1 : (⟨((1 : Int) : Rat), 0⟩ : Cq) = ⟨1, 0⟩ := Cq.ext' (by simp) rfl
theorem all4_2 : (⟨((0 : Int) : Rat) / ((1 : Int) : Rat), ((-1 : Int) : Rat) / ((1 : Int) : Rat)⟩ : Cq) = ⟨0, -1⟩ := Cq.ext' (by simp only []; grind) (by simp only []; grind)
theorem all4_3 : (⟨((-1 : Int) : Rat), 0⟩ : Cq) = ⟨-1, 0⟩ := Cq.ext' (by simp only []; grind) rfl
theorem all4_4 : -(⟨0, -1⟩ : Cq) = ⟨0, 1⟩ := Cq.ext' (by rw [Cq.neg_re]; grind) (by rw [Cq.neg_im]; grind)

theorem transform_Exact_spec {V : View} {n : Nat} (hn : n = 1 ∨ n = 2 ∨ n = 4) :
    CallV Try.prog n_transform_Exact #[.int .i64 (n : Int)] V fun v V' => ∃ r : Sl, v = .tuple #[r.v, .int .i64 0] ∧ NumsAt V' r (rootsQ n) := by
  have hd : (4 / n) * n = 4 := by rcases hn with rfl | rfl | rfl <;> rfl
  have hpos : 1 ≤ 4 / n := by rcases hn with rfl | rfl | rfl <;> decide
  have hn4 : n ≤ 4 := by omega
  have hn0 : n ≠ 0 := by omega
  have hdi : Int.tdiv 4 (n : Int) = ((4 / n : Nat) : Int) := by rcases hn with rfl | rfl | rfl <;> rfl
  have hw : IntKind.i64.wrap (Int.tdiv 4 (n : Int)) = ((4 / n : Nat) : Int) := by
    rw [hdi]
    refine i64w (by omega) ?_
    have : 4 / n ≤ 4 := Nat.div_le_self _ _
    omega
  have hq : 4 / n ≤ 4 := Nat.div_le_self _ _
  refine transform_Exact_vc (n : Int) V _ (fun c x V' => ∃ l, NumsAt V' c.t6 all4 ∧ x.t8 = (4 / n * x.t7l : Nat) ∧ x.t7l ≤ n ∧ LstOk 5 x.t7l x.t7c x.o7 l ∧ NumsIn V' l ((List.range x.t7l).map fun j => nth all4 (4 / n * j)))
    (fun _ x _ => n - x.t7l) ((transform_length_spec (Int.natCast_nonneg _)).mono fun v V1 l1 hv => ⟨_, hv, fun h => ?_, fun h => ⟨fun h => ?_, fun _ => ?_⟩⟩)
  · exfalso
    rw [Int.toNat_natCast] at h
    rcases hn with rfl | rfl | rfl <;> exact absurd h (by decide)
  · exfalso; simp at h; omega
  refine (num_New_spec (by omega) (by omega) (by omega) (by omega) (by omega) (by omega) (by omega)).mono fun v V2 l2 ⟨r2, hv, h2⟩ => ⟨r2, 0, hv, ?_⟩
  refine (num_Int_spec (by omega) (by omega)).mono fun v V3 l3 ⟨r4, hv, h4⟩ => ⟨r4, hv, ?_⟩
  refine (num_Int_spec (by omega) (by omega)).mono fun v V4 l4 ⟨r5, hv, h5⟩ => ⟨r5, hv, ?_⟩
  rw [all4_2] at h2
  rw [all4_1] at h4
  rw [all4_3] at h5
  refine (Num_Neg_spec (h2.le (View.le_trans l3 l4))).mono fun v V5 l5 ⟨r6, hv, h6⟩ => ⟨r6, hv, ?_⟩
  rw [all4_4] at h6
  intro b V6 l6 hf hb
  have hall : NumsAt V6 (Sl.mk (some (Addr.mk b 0 none)) 4 4) all4 :=
    ListAt.of_made (o := [.bool r4.re.neg, r4.re.mag.v, .bool r4.im.neg, r4.im.mag.v, r4.under.v] ++ ([.bool r2.re.neg, r2.re.mag.v, .bool r2.im.neg, r2.im.mag.v, r2.under.v] ++ ([.bool r5.re.neg, r5.re.mag.v, .bool r5.im.neg, r5.im.mag.v, r5.under.v] ++ ([.bool r6.re.neg, r6.re.mag.v, .bool r6.im.neg, r6.im.mag.v, r6.under.v] ++ []))))
      (by simpa using hb)
      ⟨_, _, rfl, rfl, ⟨r4, rfl, h4.le (View.le_trans l4 (View.le_trans l5 l6))⟩, _, _, rfl, rfl, ⟨r2, rfl, h2.le (View.le_trans l3 (View.le_trans l4 (View.le_trans l5 l6)))⟩, _, _, rfl, rfl, ⟨r5, rfl, h5.le (View.le_trans l5 l6)⟩, _, _, rfl, rfl, ⟨r6, rfl, h6.le l6⟩, rfl⟩ rfl
  refine ⟨⟨[], hall, by simp, by simp, LstOk.nil, rfl⟩, ?_⟩
  rintro ⟨k, c, t, o⟩ V7 l7 ⟨l, hA, ht, hk, hlo, hin⟩
  simp only at hA ht hk hlo hin ⊢
  refine ⟨fun hlt => ?_, fun hge => ?_⟩
  · simp only [decide_eq_true_eq] at hlt
    have hkn : k < n := by
      rcases Nat.lt_or_ge k n with h | h
      · exact h
      · have := Nat.mul_le_mul_left (4 / n) h
        omega
    obtain ⟨hb', x, hx, hs, hnx⟩ := hA.get (t := t) (by omega) (by simp [all4]; omega)
    refine ⟨hb', x, hx, hs, fun b2 V8 l8 hf8 hb8 => ?_⟩
    refine ⟨l, _, hlo, has_block (l := [.bool x.re.neg, x.re.mag.v, .bool x.im.neg, x.im.mag.v, x.under.v]) hb8, rfl, oneCell_num x, Nat.le_trans (show k + 1 ≤ 5 by omega) (show 5 ≤ maxLen by decide), by omega, fun c1 l3' hl3 => ⟨by omega, ⟨_, hA.le l8, ?_, by omega, hl3, ?_⟩, by omega⟩⟩
    · rw [hw, i64w (by omega) (by omega), ht, Nat.mul_add]; omega
    · rw [← push_range]
      have e3 : 4 / n * k = t.toNat := by omega
      rw [e3]
      exact (hin.le l8).push (hnx.le l8)
  · simp only [decide_eq_false_iff_not] at hge
    intro b3 V9 l9 hb9
    refine ⟨_, rfl, ?_⟩
    have hkn : k = n := by
      rcases Nat.lt_or_ge k n with h | h
      · have := Nat.mul_le_mul_left (4 / n) (show k + 1 ≤ n from h)
        rw [Nat.mul_add] at this
        omega
      · omega
    subst hkn
    refine ListAt.of_lst hlo hb9 (hin.le l9) ?_
    simp [rootsQ]

theorem transform_Fast_spec {V : View} {p w : Sl} {m : Nat} {zs ws : List Cq} (S T : Nat) (hm : m ≤ 6) (hz : zs.length = 2 ^ m) (hw : ws.length = 2 ^ m) (hp : NumsAt V p zs) (hq : NumsAt V w ws)
    (hS : ∀ i, i < 2 ^ m → (nth zs i).sz ≤ S) (hT : ∀ i, i < 2 ^ m → (nth ws i).sz ≤ T) (hsz : 2 ^ m * (S + T + 2) ≤ 2 ^ 39) :
    CallV Try.prog n_transform_Fast_num_Num_ #[p.v, w.v] V fun v V' => ∃ r : Sl, v = .tuple #[r.v, .int .i64 0] ∧ NumsAt V' r (stageF m zs ws) := by
  have hpl := hp.len
  have hwl := hq.len
  have hl : lenB w.len = true := by
    rw [hwl, hw]
    have key : ∀ m ∈ List.range 7, lenB (2 ^ m) = true := by decide
    exact key m (by simp; omega)
  refine transform_Fast_num_Num__vc p w V _ ((transform_fits_spec p w).mono fun v V1 l1 hv => ⟨_, hv, fun h => ?_, fun h => ?_⟩)
  · rw [hl] at h; simp at h; omega
  · have ne : stageF m zs ws ≠ [] := by
      intro e
      have := stageF_length m zs ws
      rw [e] at this; simp at this
      have : 0 < 2 ^ m := Nat.pow_pos (by omega)
      omega
    exact (CallO.nums ne (transform_stage_owned m S T hm hz hw (hp.le l1) (hq.le l1) hS hT hsz)).mono fun v V2 l2 ⟨r, hv, hr⟩ => ⟨r, hv, r, rfl, hr⟩

def gateOk (g : GateV) (n : Int) : Prop := 0 ≤ g.from_ ∧ g.from_ < n ∧ 0 ≤ g.count ∧ g.count ≤ n
theorem transform_valid_ok {V : View} {g : GateV} {n : Nat} (hl : lenB n = true) (h : gateOk g n) :
    CallV Try.prog n_transform_valid #[g.val, .int .i64 (n : Int)] V fun v V' => v = .int .i64 0 := by
  obtain ⟨h1, h2, h3, h4⟩ := h
  refine transform_valid_vc g n V _ ((transform_length_spec (Int.natCast_nonneg _)).mono fun v V1 l1 hv => ⟨_, hv, fun h => ?_, fun _ => ⟨fun h => ?_, fun _ => ⟨fun h => ?_, fun _ => ⟨fun h => ?_, fun _ => ⟨fun h => ?_, fun _ => rfl⟩⟩⟩⟩⟩)
  · rw [Int.toNat_natCast, hl] at h; simp at h
  · simp at h; omega
  · simp at h; omega
  · simp at h; omega
  · simp at h; omega
theorem transform_Rest_ok {V : View} {g : GateV} {n : Nat} (hl : lenB n = true) (h : gateOk g n) :
    CallV Try.prog n_transform_Rest #[g.val, .int .i64 (n : Int)] V fun v V' => v = .tuple #[(GateV.mk ((g.from_ + g.count) % n) (n - g.count)).val, .int .i64 0] := by
  have hb := lenB_le hl
  obtain ⟨h1, h2, h3, h4⟩ := id h
  refine transform_Rest_vc g n V _ ((transform_valid_ok hl h).mono fun v V1 l1 hv => ⟨_, hv, fun h => ?_, fun _ => ⟨by omega, ?_⟩⟩)
  · simp at h
  · rw [i64w (by omega) (by omega), i64w (by omega) (by omega), Int.tmod_eq_emod_of_nonneg (by omega)]

theorem slices_Reverse_one {V : View} {c : Nat} {w : List Value} :
    CallD Try.prog n_slices_Reverse___byte_byte_ (fun b => (Value.slice (some ⟨b, 0, none⟩) 1 c :: [] : List Value)) 5 w V fun v l V' => v = .tuple #[] ∧ l = w := by
  refine slices_Reverse___byte_byte__vc 0 1 c w V _ (fun _ x _ => x.t2 = 0 ∧ x.t3 = 0 ∧ x.o0 = w) (fun _ _ _ => 0) ⟨⟨rfl, (by decide : IntKind.i64.wrap (((1 : Nat) : Int) - 1) = 0), rfl⟩, ?_⟩
  rintro ⟨a, b, o⟩ V1 l1 ⟨h1, h2, h3⟩
  dsimp only at h1 h2 h3 ⊢
  subst h1; subst h2; subst h3
  exact ⟨fun h => absurd h (by simp), fun _ => ⟨rfl, rfl⟩⟩

/-- One decimal. -/
theorem nat_digits_one {V : View} {s : Sl} {n : Nat} (h : NatAt V s n) (h0 : 0 < n) (h9 : n < 10) :
    CallV Try.prog n_nat_digits #[s.v] V fun v V' => v = .string (ByteArray.mk #[UInt8.ofNat (48 + n)]) := by
  have hl := h.len_zero
  refine nat_digits_vc s V _
    (fun _ x V' => (NatAt V' x.t0 n ∧ x.t3l = 0 ∧ x.t3c = 0 ∧ x.o3 = []) ∨ (x.t0.len = 0 ∧ x.t3l = 1 ∧ LstOk 1 1 x.t3c x.o3 [.int .u8 ((48 + n : Nat) : Int)])) (fun _ x _ => x.t0.len)
    (fun c x V' => c.t0.len = 0 ∧ ((x.t3l = 0 ∧ x.t3c = 0 ∧ x.t4 = n ∧ x.t5 = 0 ∧ x.o3 = []) ∨ (x.t3l = 1 ∧ x.t4 = 0 ∧ x.t5 = 1 ∧ LstOk 1 1 x.t3c x.o3 [.int .u8 ((48 + n : Nat) : Int)]))) (fun _ x _ => 1 - x.t3l)
    ⟨fun h1 => ?_, fun _ => ⟨.inl ⟨h, rfl, rfl, rfl⟩, ?_⟩⟩
  · exfalso; have h1 : (s.len : Int) = 0 := (by simpa using h1); omega
  rintro ⟨t0, t3l, t3c, o3⟩ V1 l1 hI
  dsimp only at hI ⊢
  refine ⟨fun hp => ?_, fun hz => ?_⟩
  · simp only [gt_iff_lt, decide_eq_true_eq] at hp
    rcases hI with ⟨hA, rfl, rfl, rfl⟩ | ⟨hA, _⟩
    rotate_left
    · exfalso; omega
    have hw : wn n ≤ 2 ^ 45 := by have : wn n ≤ 2 := wn_le_of_lt (by omega); omega
    refine (nat_short_spec hA hw (d := 1000000000) (by omega) (by omega)).mono fun v V2 l2 ⟨r1, hv, hr1⟩ => ⟨r1, _, hv, ?_⟩
    rw [Nat.div_eq_of_lt (by omega)] at hr1
    have hr0 : r1.len = 0 := hr1.len_zero.2 rfl
    rw [Nat.mod_eq_of_lt (by omega)]
    refine ⟨⟨hr0, .inl ⟨rfl, rfl, rfl, rfl, rfl⟩⟩, ?_⟩
    rintro ⟨t3l, t3c, t4, t5, o3⟩ V3 l3 ⟨_, hI⟩
    dsimp only at hI ⊢
    refine ⟨fun h9 => ⟨fun h => ?_, fun _ => ⟨fun hpos => ?_, fun hnp => ?_⟩⟩, fun h9 => ?_⟩
    · exfalso; simp [hr0] at h
    · simp only [gt_iff_lt, decide_eq_true_eq] at hpos
      rcases hI with ⟨rfl, rfl, rfl, rfl, rfl⟩ | ⟨rfl, rfl, rfl, hA⟩
      rotate_left
      · exfalso; omega
      intro b1 V4 l4 hf hb
      have ed : IntKind.u8.wrap (IntKind.u32.wrap (48 + Int.tmod (n : Int) 10)) = ((48 + n : Nat) : Int) := by
        have e1 : Int.tmod (n : Int) 10 = n := by rw [Int.tmod_eq_emod_of_nonneg (by omega)]; omega
        rw [e1, u32w (by omega) (by omega)]
        have : ∀ n ∈ List.range 10, IntKind.u8.wrap (48 + (n : Int)) = ((48 + n : Nat) : Int) := by decide
        exact this n (by simp; omega)
      rw [ed] at hb
      refine ⟨[], [.int .u8 ((48 + n : Nat) : Int)], LstOk.nil, has_block hb, rfl, ?_, by decide, by decide, fun c1 l3 hl3 => ⟨⟨hr0, .inr ⟨rfl, ?_, ?_, hl3⟩⟩, ?_⟩⟩
      · intro v hv; simp at hv; subst hv; rfl
      · show IntKind.u32.wrap (Int.tdiv (n : Int) 10) = 0
        have e1 : Int.tdiv (n : Int) 10 = 0 := by rw [Int.tdiv_eq_ediv_of_nonneg (by omega)]; omega
        rw [e1]; decide
      · show IntKind.i64.wrap (0 + 1) = 1
        decide
      · show 1 - (0 + 1) < 1 - 0
        decide
    · simp only [gt_iff_lt, decide_eq_false_iff_not] at hnp
      rcases hI with ⟨rfl, rfl, rfl, rfl, rfl⟩ | ⟨rfl, rfl, rfl, hA⟩
      · exfalso; omega
      · exact ⟨.inr ⟨hr0, rfl, hA⟩, by show r1.len < t0.len; omega⟩
    · rcases hI with ⟨rfl, rfl, rfl, rfl, rfl⟩ | ⟨rfl, rfl, rfl, hA⟩ <;> exact absurd h9 (by simp)
  · simp only [gt_iff_lt, decide_eq_false_iff_not] at hz
    rcases hI with ⟨hA, rfl, rfl, rfl⟩ | ⟨hA, rfl, hlo⟩
    · exfalso; have := hA.len_zero; omega
    obtain ⟨o', e⟩ := hlo.split
    have hc := hlo.le
    refine ⟨⟨by rw [e]; simp, ⟨by omega, trivial⟩, trivial⟩, slices_Reverse_one.mono fun v l V7 l7 ⟨hv, hl⟩ => ⟨hv, fun b4 V8 l8 hb => ?_⟩⟩
    rw [hl] at hb
    refine ⟨[UInt8.ofNat (48 + n)], ?_, rfl, rfl, rfl⟩
    have hh := has_block hb
    intro j v hj
    refine hh j v ?_
    rw [e]
    have ev : byteV (UInt8.ofNat (48 + n)) = .int .u8 ((48 + n : Nat) : Int) := by
      unfold byteV
      have : ∀ n ∈ List.range 10, ((UInt8.ofNat (48 + n)).toNat : Int) = ((48 + n : Nat) : Int) := by decide
      rw [this n (by simp; omega)]
    cases j with
    | zero =>
      simp only [List.map_cons, List.map_nil, List.getElem?_cons_zero, Option.some.injEq] at hj
      rw [← hj, ev]; rfl
    | succ j => simp at hj

theorem small2 : ((1 + 1 : Nat) : Int) ≤ IntKind.i64.max := by decide
/-- A part of one decimal. -/
theorem num_part_one {V : View} {x : WhV} {s : Sl} {a : Int} (hx : IntAt V x a) (hs : NatAt V s 1) (h0 : a ≠ 0) (h9 : a.natAbs < 10) :
    CallV Try.prog n_num_part #[x.val, s.v] V fun v V' => v = .string (if a < 0 then ByteArray.mk #[45] ++ ByteArray.mk #[UInt8.ofNat (48 + a.natAbs)] else ByteArray.mk #[UInt8.ofNat (48 + a.natAbs)]) := by
  obtain ⟨e1, e2, e3⟩ := Cq.ofInt_eqs a
  have hw : wn a.natAbs ≤ 2 ^ 43 := by have : wn a.natAbs ≤ 2 := wn_le_of_lt (by omega); omega
  have hw0 : wn (0 : Int).natAbs ≤ 2 ^ 43 := by have : wn 0 ≤ 2 := wn_le_of_lt (by omega); simp; omega
  have hw1 : wn 1 ≤ 2 ^ 43 := by have : wn 1 ≤ 2 := wn_le_of_lt (by omega); omega
  refine num_part_vc x s V _ ((num_over_spec hx (IntAt.zero V) hs (Rep.ofInt a) hw hw0 hw1).mono fun v V1 l1 ⟨r1, hv, hr⟩ => ⟨r1, hv, ?_⟩)
  have hre := hr.re
  have hun := hr.under
  rw [e1] at hre
  rw [e3, if_pos rfl] at hun
  have hul : r1.under.len = 0 := hun.len_zero.2 rfl
  refine (nat_digits_one hre.2 (by omega) h9).mono fun v V2 l2 hv => ⟨_, hv, fun hneg => ⟨small2, fun h => ?_, fun _ => ?_⟩, fun hneg => ⟨fun h => ?_, fun _ => ?_⟩⟩
  · exfalso; simp [hul] at h
  · rw [hre.1] at hneg
    rw [if_pos (by simpa using hneg)]
  · exfalso; simp [hul] at h
  · rw [hre.1] at hneg
    rw [if_neg (by simpa using hneg)]

theorem eqAt_gate : EqAt Try.prog 50 ((GateV.mk 1 2).val) ((GateV.mk 1 2).val) true := fun w => by kernel_rfl

theorem awakeQ_eqs : (Cq.mk (-2) 2).A = -2 ∧ (Cq.mk (-2) 2).B = 2 ∧ (Cq.mk (-2) 2).D = 1 :=
  Canon.eqs ⟨⟨by omega, by simp only []; rw [Rat.div_def]; grind, by simp only []; rw [Rat.div_def]; grind⟩, by decide⟩

theorem small3 : ((1 + 1 : Nat) : Int) ≤ IntKind.i64.max := by decide
theorem small4 : ((1 + 2 : Nat) : Int) ≤ IntKind.i64.max := by decide
theorem small5 : ((2 + 3 : Nat) : Int) ≤ IntKind.i64.max := by decide

theorem Num_Text_awake {V : View} {x : NumV} (h : NumAt V x ⟨-2, 2⟩) :
    CallV Try.prog n_Num_Text #[x.val] V fun v V' => v = .string (ByteArray.mk #[45, 50, 43, 50, 105]) := by
  obtain ⟨e1, e2, e3⟩ := awakeQ_eqs
  have hre := h.re
  have him := h.im
  rw [e1] at hre
  rw [e2] at him
  refine Num_Text_vc x V _ ((Num_Real_spec h).mono fun v V1 l1 hv => ⟨_, hv, fun hr => ?_, fun _ => ?_⟩)
  · exfalso
    simp at hr
  refine (Num_den_spec (h.le l1)).mono fun v V4 l4 ⟨r4, hv, h4⟩ => ⟨r4, hv, ?_⟩
  rw [e3] at h4
  refine (num_part_one (him.le (View.le_trans l1 l4)) h4 (by omega) (by decide)).mono fun v V5 l5 hv => ⟨_, hv, small3, fun h0 => ?_, fun _ => ⟨fun _ => ?_, fun hn => ?_⟩⟩
  · exfalso
    have h0 : x.re.mag.len = 0 := by have : (x.re.mag.len : Int) = 0 := (by simpa using h0); omega
    have := hre.2.len_zero.1 h0
    omega
  · refine ⟨small4, (Num_den_spec (h.le (View.le_trans l1 (View.le_trans l4 l5)))).mono fun v V6 l6 ⟨r6, hv, h6⟩ => ⟨r6, hv, ?_⟩⟩
    rw [e3] at h6
    refine (num_part_one (hre.le (View.le_trans l1 (View.le_trans l4 (View.le_trans l5 l6)))) h6 (by omega) (by decide)).mono fun v V7 l7 hv => ⟨_, hv, small5, ?_⟩
    rfl
  · exfalso
    rw [him.1] at hn
    exact absurd hn (by decide)

def four : List RatV := [⟨1, 0, 0⟩, ⟨2, 0, 0⟩, ⟨3, 0, 0⟩, ⟨4, 0, 0⟩]
theorem four_ok : ∀ r ∈ four, ratI r := by
  intro r hr
  simp only [four, List.mem_cons, List.not_mem_nil, or_false] at hr
  rcases hr with rfl | rfl | rfl | rfl <;> exact ⟨⟨by decide, by decide⟩, ⟨by decide, by decide⟩, ⟨by decide, by decide⟩⟩
theorem four_sz : ∀ i, i < 2 ^ 2 → (nth (four.map ratQ) i).sz ≤ 4 := by
  decide +kernel
theorem roots_sz : ∀ i, i < 2 ^ 2 → (nth (rootsQ 4) i).sz ≤ 4 := by
  decide +kernel
theorem awake_stage : nth (stageF 2 (four.map ratQ) (rootsQ 4)) 1 = ⟨-2, 2⟩ := by
  decide +kernel

theorem ratC_of (V : View) (a b c : Int) : ratC V [.int .i64 a, .int .i64 b, .int .i64 c] ⟨a, b, c⟩ := by unfold ratC; rfl

theorem awake_spec {V : View} : CallV Try.prog n_waveportlaw07_awake #[] V fun v V' => v = .bool true := by
  refine waveportlaw07_awake_vc V _ ((transform_Exact_spec (n := 4) (by omega)).mono fun v V1 l1 ⟨w, hv, hw⟩ => ⟨w, 0, hv, ?_⟩)
  intro b V2 l2 hf hb
  have hrs : RatsAt V2 (Sl.mk (some (Addr.mk b 0 none)) 4 4) four :=
    ListAt.of_made (o := [.int .i64 1, .int .i64 0, .int .i64 0] ++ ([.int .i64 2, .int .i64 0, .int .i64 0] ++ ([.int .i64 3, .int .i64 0, .int .i64 0] ++ ([.int .i64 4, .int .i64 0, .int .i64 0] ++ []))))
      (by simpa using hb) ⟨_, _, rfl, rfl, ratC_of _ _ _ _, _, _, rfl, rfl, ratC_of _ _ _ _, _, _, rfl, rfl, ratC_of _ _ _ _, _, _, rfl, rfl, ratC_of _ _ _ _, rfl⟩ rfl
  refine (law1_List_spec hrs four_ok (by decide)).mono fun v V3 l3 ⟨r3, hv, h3⟩ => ⟨r3, hv, ?_⟩
  refine (transform_Fast_spec (m := 2) 4 4 (by omega) rfl rfl h3 (hw.le (View.le_trans l2 l3)) four_sz roots_sz (by decide)).mono fun v V4 l4 ⟨r4, hv, h4⟩ => ⟨r4, 0, hv, ?_⟩
  refine (transform_Rest_ok (g := GateV.mk 3 2) (n := 4) (by decide) ⟨by decide, by decide, by decide, by decide⟩).mono fun v V5 l5 hv => ⟨GateV.mk 1 2, 0, hv, ?_⟩
  have hl : r4.len = 4 := h4.len
  obtain ⟨hb', x, hx, hs, hnx⟩ := (h4.le l5).get (t := 1) (by omega) (by show 1 < 4; omega)
  have e1 : nth (stageF 2 (four.map ratQ) (rootsQ 4)) (Int.toNat 1) = ⟨-2, 2⟩ := awake_stage
  rw [e1] at hnx
  refine ⟨fun _ => ⟨fun _ => ⟨fun _ => ⟨fun _ => ⟨hb', x, hx, hs, (Num_Text_awake hnx).mono fun v V6 l6 hv => ⟨_, hv, fun _ => ⟨true, eqAt_gate, rfl⟩, fun h => ?_⟩⟩, fun h => ?_⟩, fun h => ?_⟩, fun h => ?_⟩, fun h => ?_⟩
  · simp at h
  · simp [hl] at h
  · simp at h
  · simp at h
  · simp at h
end Go.Proofs.Ytnbjnokgmeamdaa
