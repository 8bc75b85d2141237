/- Part of the proof; it has the parts CTr2 FFor CFor CBack CReal VPart CShf. -/
import Derived.Test.YtcapadojlaojkaaPartG
namespace Go.Proofs.Ytcapadojlaojkaa
open Go Go.Vc Go.Proofs

/-- The fourth roots of one. -/
def all4 : List Cq := [⟨1, 0⟩, ⟨0, -1⟩, ⟨-1, 0⟩, ⟨0, 1⟩]
def rootsQ (n : Nat) : List Cq := (List.range n).map fun j => nth all4 (4 / n * j)

theorem all4_1 : (⟨((1 : Int) : Rat), 0⟩ : Cq) = ⟨1, 0⟩ := Cq.ext' (by simp) rfl
theorem all4_2 : (⟨((0 : Int) : Rat) / ((1 : Int) : Rat), ((-1 : Int) : Rat) / ((1 : Int) : Rat)⟩ : Cq) = ⟨0, -1⟩ := Cq.ext' (by simp only []; grind) (by simp only []; grind)
theorem all4_3 : (⟨((-1 : Int) : Rat), 0⟩ : Cq) = ⟨-1, 0⟩ := Cq.ext' (by simp only []; grind) rfl
theorem all4_4 : -(⟨0, -1⟩ : Cq) = ⟨0, 1⟩ := Cq.ext' (by rw [Cq.neg_re]; grind) (by rw [Cq.neg_im]; grind)

theorem transform_Exact_spec {V : View} {n : Nat} (hn : n = 1 ∨ n = 2 ∨ n = 4) :
    CallV Try.prog n_transform_Exact #[.int .i64 (n : Int)] V fun v V' => ∃ r : Sl, v = .tuple #[r.v, .int .i64 0] ∧ NumsAt V' r (rootsQ n) := by
  have hd : (4 / n) * n = 4 := by rcases hn with rfl | rfl | rfl <;> rfl
  have hpos : 1 ≤ 4 / n := by rcases hn with rfl | rfl | rfl <;> decide
  have hn4 : n ≤ 4 := by omega
  have hn0 : n ≠ 0 := by omega
  have hdi : Int.tdiv 4 (n : Int) = ((4 / n : Nat) : Int) := by rcases hn with rfl | rfl | rfl <;> rfl
  have hw : IntKind.i64.wrap (Int.tdiv 4 (n : Int)) = ((4 / n : Nat) : Int) := by
    rw [hdi]
    refine i64w (by omega) ?_
    have : 4 / n ≤ 4 := Nat.div_le_self _ _
    omega
  have hq : 4 / n ≤ 4 := Nat.div_le_self _ _
  refine transform_Exact_vc (n : Int) V _ (fun c x V' => ∃ l, NumsAt V' c.t6 all4 ∧ x.t8 = (4 / n * x.t7l : Nat) ∧ x.t7l ≤ n ∧ LstOk 5 x.t7l x.t7c x.o7 l ∧ NumsIn V' l ((List.range x.t7l).map fun j => nth all4 (4 / n * j)))
    (fun _ x _ => n - x.t7l) ((transform_length_spec (Int.natCast_nonneg _)).mono fun v V1 l1 hv => ⟨_, hv, fun h => ?_, fun h => ⟨fun h => ?_, fun _ => ?_⟩⟩)
  · exfalso
    rw [Int.toNat_natCast] at h
    rcases hn with rfl | rfl | rfl <;> exact absurd h (by decide)
  · exfalso; simp at h; omega
  refine (num_New_spec (by omega) (by omega) (by omega) (by omega) (by omega) (by omega) (by omega)).mono fun v V2 l2 ⟨r2, hv, h2⟩ => ⟨r2, 0, hv, ?_⟩
  refine (num_Int_spec (by omega) (by omega)).mono fun v V3 l3 ⟨r4, hv, h4⟩ => ⟨r4, hv, ?_⟩
  refine (num_Int_spec (by omega) (by omega)).mono fun v V4 l4 ⟨r5, hv, h5⟩ => ⟨r5, hv, ?_⟩
  rw [all4_2] at h2
  rw [all4_1] at h4
  rw [all4_3] at h5
  refine (Num_Neg_spec (h2.le (View.le_trans l3 l4))).mono fun v V5 l5 ⟨r6, hv, h6⟩ => ⟨r6, hv, ?_⟩
  rw [all4_4] at h6
  intro b V6 l6 hf hb
  have hall : NumsAt V6 (Sl.mk (some (Addr.mk b 0 none)) 4 4) all4 :=
    ListAt.of_made (o := [.bool r4.re.neg, r4.re.mag.v, .bool r4.im.neg, r4.im.mag.v, r4.under.v] ++ ([.bool r2.re.neg, r2.re.mag.v, .bool r2.im.neg, r2.im.mag.v, r2.under.v] ++ ([.bool r5.re.neg, r5.re.mag.v, .bool r5.im.neg, r5.im.mag.v, r5.under.v] ++ ([.bool r6.re.neg, r6.re.mag.v, .bool r6.im.neg, r6.im.mag.v, r6.under.v] ++ []))))
      (by simpa using hb)
      ⟨_, _, rfl, rfl, ⟨r4, rfl, h4.le (View.le_trans l4 (View.le_trans l5 l6))⟩, _, _, rfl, rfl, ⟨r2, rfl, h2.le (View.le_trans l3 (View.le_trans l4 (View.le_trans l5 l6)))⟩, _, _, rfl, rfl, ⟨r5, rfl, h5.le (View.le_trans l5 l6)⟩, _, _, rfl, rfl, ⟨r6, rfl, h6.le l6⟩, rfl⟩ rfl
  refine ⟨⟨[], hall, by simp, by simp, LstOk.nil, rfl⟩, ?_⟩
  rintro ⟨k, c, t, o⟩ V7 l7 ⟨l, hA, ht, hk, hlo, hin⟩
  simp only at hA ht hk hlo hin ⊢
  refine ⟨fun hlt => ?_, fun hge => ?_⟩
  · simp only [decide_eq_true_eq] at hlt
    have hkn : k < n := by
      rcases Nat.lt_or_ge k n with h | h
      · exact h
      · have := Nat.mul_le_mul_left (4 / n) h
        omega
    obtain ⟨hb', x, hx, hs, hnx⟩ := hA.get (t := t) (by omega) (by simp [all4]; omega)
    refine ⟨hb', x, hx, hs, fun b2 V8 l8 hf8 hb8 => ?_⟩
    refine ⟨l, _, hlo, has_block (l := [.bool x.re.neg, x.re.mag.v, .bool x.im.neg, x.im.mag.v, x.under.v]) hb8, rfl, oneCell_num x, Nat.le_trans (show k + 1 ≤ 5 by omega) (show 5 ≤ maxLen by decide), by omega, fun c1 l3' hl3 => ⟨by omega, ⟨_, hA.le l8, ?_, by omega, hl3, ?_⟩, by omega⟩⟩
    · rw [hw, i64w (by omega) (by omega), ht, Nat.mul_add]; omega
    · rw [← push_range]
      have e3 : 4 / n * k = t.toNat := by omega
      rw [e3]
      exact (hin.le l8).push (hnx.le l8)
  · simp only [decide_eq_false_iff_not] at hge
    intro b3 V9 l9 hb9
    refine ⟨_, rfl, ?_⟩
    have hkn : k = n := by
      rcases Nat.lt_or_ge k n with h | h
      · have := Nat.mul_le_mul_left (4 / n) (show k + 1 ≤ n from h)
        rw [Nat.mul_add] at this
        omega
      · omega
    subst hkn
    refine ListAt.of_lst hlo hb9 (hin.le l9) ?_
    simp [rootsQ]

theorem transform_Fast_spec {V : View} {p w : Sl} {m : Nat} {zs ws : List Cq} (S T : Nat) (hm : m ≤ 6) (hz : zs.length = 2 ^ m) (hw : ws.length = 2 ^ m) (hp : NumsAt V p zs) (hq : NumsAt V w ws)
    (hS : ∀ i, i < 2 ^ m → (nth zs i).sz ≤ S) (hT : ∀ i, i < 2 ^ m → (nth ws i).sz ≤ T) (hsz : 2 ^ m * (S + T + 2) ≤ 2 ^ 39) :
    CallV Try.prog n_transform_Fast_num_Num_ #[p.v, w.v] V fun v V' => ∃ r : Sl, v = .tuple #[r.v, .int .i64 0] ∧ NumsAt V' r (stageF m zs ws) := by
  have hpl := hp.len
  have hwl := hq.len
  have hl : lenB w.len = true := by
    rw [hwl, hw]
    have key : ∀ m ∈ List.range 7, lenB (2 ^ m) = true := by decide
    exact key m (by simp; omega)
  refine transform_Fast_num_Num__vc p w V _ ((transform_fits_spec p w).mono fun v V1 l1 hv => ⟨_, hv, fun h => ?_, fun h => ?_⟩)
  · rw [hl] at h; simp at h; omega
  · have ne : stageF m zs ws ≠ [] := by
      intro e
      have := stageF_length m zs ws
      rw [e] at this; simp at this
      have : 0 < 2 ^ m := Nat.pow_pos (by omega)
      omega
    exact (CallO.nums ne (transform_stage_owned m S T hm hz hw (hp.le l1) (hq.le l1) hS hT hsz)).mono fun v V2 l2 ⟨r, hv, hr⟩ => ⟨r, hv, r, rfl, hr⟩

def gateOk (g : GateV) (n : Int) : Prop := 0 ≤ g.from_ ∧ g.from_ < n ∧ 0 ≤ g.count ∧ g.count ≤ n
theorem transform_valid_ok {V : View} {g : GateV} {n : Nat} (hl : lenB n = true) (h : gateOk g n) :
    CallV Try.prog n_transform_valid #[g.val, .int .i64 (n : Int)] V fun v V' => v = .int .i64 0 := by
  obtain ⟨h1, h2, h3, h4⟩ := h
  refine transform_valid_vc g n V _ ((transform_length_spec (Int.natCast_nonneg _)).mono fun v V1 l1 hv => ⟨_, hv, fun h => ?_, fun _ => ⟨fun h => ?_, fun _ => ⟨fun h => ?_, fun _ => ⟨fun h => ?_, fun _ => ⟨fun h => ?_, fun _ => rfl⟩⟩⟩⟩⟩)
  · rw [Int.toNat_natCast, hl] at h; simp at h
  · simp at h; omega
  · simp at h; omega
  · simp at h; omega
  · simp at h; omega
theorem transform_Rest_ok {V : View} {g : GateV} {n : Nat} (hl : lenB n = true) (h : gateOk g n) :
    CallV Try.prog n_transform_Rest #[g.val, .int .i64 (n : Int)] V fun v V' => v = .tuple #[(GateV.mk ((g.from_ + g.count) % n) (n - g.count)).val, .int .i64 0] := by
  have hb := lenB_le hl
  obtain ⟨h1, h2, h3, h4⟩ := id h
  refine transform_Rest_vc g n V _ ((transform_valid_ok hl h).mono fun v V1 l1 hv => ⟨_, hv, fun h => ?_, fun _ => ⟨by omega, ?_⟩⟩)
  · simp at h
  · rw [i64w (by omega) (by omega), i64w (by omega) (by omega), Int.tmod_eq_emod_of_nonneg (by omega)]

theorem slices_Reverse_one {V : View} {c : Nat} {w : List Value} :
    CallD Try.prog n_slices_Reverse___byte_byte_ (fun b => (Value.slice (some ⟨b, 0, none⟩) 1 c :: [] : List Value)) T_u8 w V fun v l V' => v = .tuple #[] ∧ l = w := by
  refine slices_Reverse___byte_byte__vc 0 1 c w V _ (fun _ x _ => x.t2 = 0 ∧ x.t3 = 0 ∧ x.o0 = w) (fun _ _ _ => 0) ⟨⟨rfl, (by decide : IntKind.i64.wrap (((1 : Nat) : Int) - 1) = 0), rfl⟩, ?_⟩
  rintro ⟨a, b, o⟩ V1 l1 ⟨h1, h2, h3⟩
  dsimp only at h1 h2 h3 ⊢
  subst h1; subst h2; subst h3
  exact ⟨fun h => absurd h (by simp), fun _ => ⟨rfl, rfl⟩⟩

/-- One decimal. -/
theorem nat_digits_one {V : View} {s : Sl} {n : Nat} (h : NatAt V s n) (h0 : 0 < n) (h9 : n < 10) :
    CallV Try.prog n_nat_digits #[s.v] V fun v V' => v = .string (ByteArray.mk #[UInt8.ofNat (48 + n)]) := by
  have hl := h.len_zero
  refine nat_digits_vc s V _
    (fun _ x V' => (NatAt V' x.t0 n ∧ x.t3l = 0 ∧ x.t3c = 0 ∧ x.o3 = []) ∨ (x.t0.len = 0 ∧ x.t3l = 1 ∧ LstOk 1 1 x.t3c x.o3 [.int .u8 ((48 + n : Nat) : Int)])) (fun _ x _ => x.t0.len)
    (fun c x V' => c.t0.len = 0 ∧ ((x.t3l = 0 ∧ x.t3c = 0 ∧ x.t4 = n ∧ x.t5 = 0 ∧ x.o3 = []) ∨ (x.t3l = 1 ∧ x.t4 = 0 ∧ x.t5 = 1 ∧ LstOk 1 1 x.t3c x.o3 [.int .u8 ((48 + n : Nat) : Int)]))) (fun _ x _ => 1 - x.t3l)
    ⟨fun h1 => ?_, fun _ => ⟨.inl ⟨h, rfl, rfl, rfl⟩, ?_⟩⟩
  · exfalso; have h1 : (s.len : Int) = 0 := (by simpa using h1); omega
  rintro ⟨t0, t3l, t3c, o3⟩ V1 l1 hI
  dsimp only at hI ⊢
  refine ⟨fun hp => ?_, fun hz => ?_⟩
  · simp only [gt_iff_lt, decide_eq_true_eq] at hp
    rcases hI with ⟨hA, rfl, rfl, rfl⟩ | ⟨hA, _⟩
    rotate_left
    · exfalso; omega
    have hw : wn n ≤ 2 ^ 45 := by have : wn n ≤ 2 := wn_le_of_lt (by omega); omega
    refine (nat_short_spec hA hw (d := 1000000000) (by omega) (by omega)).mono fun v V2 l2 ⟨r1, hv, hr1⟩ => ⟨r1, _, hv, ?_⟩
    rw [Nat.div_eq_of_lt (by omega)] at hr1
    have hr0 : r1.len = 0 := hr1.len_zero.2 rfl
    rw [Nat.mod_eq_of_lt (by omega)]
    refine ⟨⟨hr0, .inl ⟨rfl, rfl, rfl, rfl, rfl⟩⟩, ?_⟩
    rintro ⟨t3l, t3c, t4, t5, o3⟩ V3 l3 ⟨_, hI⟩
    dsimp only at hI ⊢
    refine ⟨fun h9 => ⟨fun h => ?_, fun _ => ⟨fun hpos => ?_, fun hnp => ?_⟩⟩, fun h9 => ?_⟩
    · exfalso; simp [hr0] at h
    · simp only [gt_iff_lt, decide_eq_true_eq] at hpos
      rcases hI with ⟨rfl, rfl, rfl, rfl, rfl⟩ | ⟨rfl, rfl, rfl, hA⟩
      rotate_left
      · exfalso; omega
      intro b1 V4 l4 hf hb
      have ed : IntKind.u8.wrap (IntKind.u32.wrap (48 + Int.tmod (n : Int) 10)) = ((48 + n : Nat) : Int) := by
        have e1 : Int.tmod (n : Int) 10 = n := by rw [Int.tmod_eq_emod_of_nonneg (by omega)]; omega
        rw [e1, u32w (by omega) (by omega)]
        have : ∀ n ∈ List.range 10, IntKind.u8.wrap (48 + (n : Int)) = ((48 + n : Nat) : Int) := by decide
        exact this n (by simp; omega)
      rw [ed] at hb
      refine ⟨[], [.int .u8 ((48 + n : Nat) : Int)], LstOk.nil, has_block hb, rfl, ?_, by decide, by decide, fun c1 l3 hl3 => ⟨⟨hr0, .inr ⟨rfl, ?_, ?_, hl3⟩⟩, ?_⟩⟩
      · intro v hv; simp at hv; subst hv; rfl
      · show IntKind.u32.wrap (Int.tdiv (n : Int) 10) = 0
        have e1 : Int.tdiv (n : Int) 10 = 0 := by rw [Int.tdiv_eq_ediv_of_nonneg (by omega)]; omega
        rw [e1]; decide
      · show IntKind.i64.wrap (0 + 1) = 1
        decide
      · show 1 - (0 + 1) < 1 - 0
        decide
    · simp only [gt_iff_lt, decide_eq_false_iff_not] at hnp
      rcases hI with ⟨rfl, rfl, rfl, rfl, rfl⟩ | ⟨rfl, rfl, rfl, hA⟩
      · exfalso; omega
      · exact ⟨.inr ⟨hr0, rfl, hA⟩, by show r1.len < t0.len; omega⟩
    · rcases hI with ⟨rfl, rfl, rfl, rfl, rfl⟩ | ⟨rfl, rfl, rfl, hA⟩ <;> exact absurd h9 (by simp)
  · simp only [gt_iff_lt, decide_eq_false_iff_not] at hz
    rcases hI with ⟨hA, rfl, rfl, rfl⟩ | ⟨hA, rfl, hlo⟩
    · exfalso; have := hA.len_zero; omega
    obtain ⟨o', e⟩ := hlo.split
    have hc := hlo.le
    refine ⟨⟨by rw [e]; simp, ⟨by omega, trivial⟩, trivial⟩, slices_Reverse_one.mono fun v l V7 l7 ⟨hv, hl⟩ => ⟨hv, fun b4 V8 l8 hb => ?_⟩⟩
    rw [hl] at hb
    refine ⟨[UInt8.ofNat (48 + n)], ?_, rfl, rfl, rfl⟩
    have hh := has_block hb
    intro j v hj
    refine hh j v ?_
    rw [e]
    have ev : byteV (UInt8.ofNat (48 + n)) = .int .u8 ((48 + n : Nat) : Int) := by
      unfold byteV
      have : ∀ n ∈ List.range 10, ((UInt8.ofNat (48 + n)).toNat : Int) = ((48 + n : Nat) : Int) := by decide
      rw [this n (by simp; omega)]
    cases j with
    | zero =>
      simp only [List.map_cons, List.map_nil, List.getElem?_cons_zero, Option.some.injEq] at hj
      rw [← hj, ev]; rfl
    | succ j => simp at hj

theorem small2 : ((1 + 1 : Nat) : Int) ≤ IntKind.i64.max := by decide
/-- A part of one decimal. -/
theorem num_part_one {V : View} {x : WhV} {s : Sl} {a : Int} (hx : IntAt V x a) (hs : NatAt V s 1) (h0 : a ≠ 0) (h9 : a.natAbs < 10) :
    CallV Try.prog n_num_part #[x.val, s.v] V fun v V' => v = .string (if a < 0 then ByteArray.mk #[45] ++ ByteArray.mk #[UInt8.ofNat (48 + a.natAbs)] else ByteArray.mk #[UInt8.ofNat (48 + a.natAbs)]) := by
  obtain ⟨e1, e2, e3⟩ := Cq.ofInt_eqs a
  have hw : wn a.natAbs ≤ 2 ^ 43 := by have : wn a.natAbs ≤ 2 := wn_le_of_lt (by omega); omega
  have hw0 : wn (0 : Int).natAbs ≤ 2 ^ 43 := by have : wn 0 ≤ 2 := wn_le_of_lt (by omega); simp; omega
  have hw1 : wn 1 ≤ 2 ^ 43 := by have : wn 1 ≤ 2 := wn_le_of_lt (by omega); omega
  refine num_part_vc x s V _ ((num_over_spec hx (IntAt.zero V) hs (Rep.ofInt a) hw hw0 hw1).mono fun v V1 l1 ⟨r1, hv, hr⟩ => ⟨r1, hv, ?_⟩)
  have hre := hr.re
  have hun := hr.under
  rw [e1] at hre
  rw [e3, if_pos rfl] at hun
  have hul : r1.under.len = 0 := hun.len_zero.2 rfl
  refine (nat_digits_one hre.2 (by omega) h9).mono fun v V2 l2 hv => ⟨_, hv, fun hneg => ⟨small2, fun h => ?_, fun _ => ?_⟩, fun hneg => ⟨fun h => ?_, fun _ => ?_⟩⟩
  · exfalso; simp [hul] at h
  · rw [hre.1] at hneg
    rw [if_pos (by simpa using hneg)]
  · exfalso; simp [hul] at h
  · rw [hre.1] at hneg
    rw [if_neg (by simpa using hneg)]

theorem eqAt_gate : EqAt Try.prog TN_api_Gate ((GateV.mk 1 2).val) ((GateV.mk 1 2).val) true := fun w => by kernel_rfl

theorem awakeQ_eqs : (Cq.mk (-2) 2).A = -2 ∧ (Cq.mk (-2) 2).B = 2 ∧ (Cq.mk (-2) 2).D = 1 :=
  Canon.eqs ⟨⟨by omega, by simp only []; rw [Rat.div_def]; grind, by simp only []; rw [Rat.div_def]; grind⟩, by decide⟩

theorem small3 : ((1 + 1 : Nat) : Int) ≤ IntKind.i64.max := by decide
theorem small4 : ((1 + 2 : Nat) : Int) ≤ IntKind.i64.max := by decide
theorem small5 : ((2 + 3 : Nat) : Int) ≤ IntKind.i64.max := by decide

theorem Num_Text_awake {V : View} {x : NumV} (h : NumAt V x ⟨-2, 2⟩) :
    CallV Try.prog n_Num_Text #[x.val] V fun v V' => v = .string (ByteArray.mk #[45, 50, 43, 50, 105]) := by
  obtain ⟨e1, e2, e3⟩ := awakeQ_eqs
  have hre := h.re
  have him := h.im
  rw [e1] at hre
  rw [e2] at him
  refine Num_Text_vc x V _ ((Num_Real_spec h).mono fun v V1 l1 hv => ⟨_, hv, fun hr => ?_, fun _ => ?_⟩)
  · exfalso
    simp at hr
  refine (Num_den_spec (h.le l1)).mono fun v V4 l4 ⟨r4, hv, h4⟩ => ⟨r4, hv, ?_⟩
  rw [e3] at h4
  refine (num_part_one (him.le (View.le_trans l1 l4)) h4 (by omega) (by decide)).mono fun v V5 l5 hv => ⟨_, hv, small3, fun h0 => ?_, fun _ => ⟨fun _ => ?_, fun hn => ?_⟩⟩
  · exfalso
    have h0 : x.re.mag.len = 0 := by have : (x.re.mag.len : Int) = 0 := (by simpa using h0); omega
    have := hre.2.len_zero.1 h0
    omega
  · refine ⟨small4, (Num_den_spec (h.le (View.le_trans l1 (View.le_trans l4 l5)))).mono fun v V6 l6 ⟨r6, hv, h6⟩ => ⟨r6, hv, ?_⟩⟩
    rw [e3] at h6
    refine (num_part_one (hre.le (View.le_trans l1 (View.le_trans l4 (View.le_trans l5 l6)))) h6 (by omega) (by decide)).mono fun v V7 l7 hv => ⟨_, hv, small5, ?_⟩
    rfl
  · exfalso
    rw [him.1] at hn
    exact absurd hn (by decide)

def four : List RatV := [⟨1, 0, 0⟩, ⟨2, 0, 0⟩, ⟨3, 0, 0⟩, ⟨4, 0, 0⟩]
theorem four_ok : ∀ r ∈ four, ratI r := by
  intro r hr
  simp only [four, List.mem_cons, List.not_mem_nil, or_false] at hr
  rcases hr with rfl | rfl | rfl | rfl <;> exact ⟨⟨by decide, by decide⟩, ⟨by decide, by decide⟩, ⟨by decide, by decide⟩⟩
theorem four_sz : ∀ i, i < 2 ^ 2 → (nth (four.map ratQ) i).sz ≤ 4 := by
  decide +kernel
theorem roots_sz : ∀ i, i < 2 ^ 2 → (nth (rootsQ 4) i).sz ≤ 4 := by
  decide +kernel
theorem awake_stage : nth (stageF 2 (four.map ratQ) (rootsQ 4)) 1 = ⟨-2, 2⟩ := by
  decide +kernel

theorem ratC_of (V : View) (a b c : Int) : ratC V [.int .i64 a, .int .i64 b, .int .i64 c] ⟨a, b, c⟩ := by unfold ratC; rfl

theorem awake_spec {V : View} : CallV Try.prog n_waveportlaw07_awake #[] V fun v V' => v = .bool true := by
  refine waveportlaw07_awake_vc V _ ((transform_Exact_spec (n := 4) (by omega)).mono fun v V1 l1 ⟨w, hv, hw⟩ => ⟨w, 0, hv, ?_⟩)
  intro b V2 l2 hf hb
  have hrs : RatsAt V2 (Sl.mk (some (Addr.mk b 0 none)) 4 4) four :=
    ListAt.of_made (o := [.int .i64 1, .int .i64 0, .int .i64 0] ++ ([.int .i64 2, .int .i64 0, .int .i64 0] ++ ([.int .i64 3, .int .i64 0, .int .i64 0] ++ ([.int .i64 4, .int .i64 0, .int .i64 0] ++ []))))
      (by simpa using hb) ⟨_, _, rfl, rfl, ratC_of _ _ _ _, _, _, rfl, rfl, ratC_of _ _ _ _, _, _, rfl, rfl, ratC_of _ _ _ _, _, _, rfl, rfl, ratC_of _ _ _ _, rfl⟩ rfl
  refine (law1_List_spec hrs four_ok (by decide)).mono fun v V3 l3 ⟨r3, hv, h3⟩ => ⟨r3, hv, ?_⟩
  refine (transform_Fast_spec (m := 2) 4 4 (by omega) rfl rfl h3 (hw.le (View.le_trans l2 l3)) four_sz roots_sz (by decide)).mono fun v V4 l4 ⟨r4, hv, h4⟩ => ⟨r4, 0, hv, ?_⟩
  refine (transform_Rest_ok (g := GateV.mk 3 2) (n := 4) (by decide) ⟨by decide, by decide, by decide, by decide⟩).mono fun v V5 l5 hv => ⟨GateV.mk 1 2, 0, hv, ?_⟩
  have hl : r4.len = 4 := h4.len
  obtain ⟨hb', x, hx, hs, hnx⟩ := (h4.le l5).get (t := 1) (by omega) (by show 1 < 4; omega)
  have e1 : nth (stageF 2 (four.map ratQ) (rootsQ 4)) (Int.toNat 1) = ⟨-2, 2⟩ := awake_stage
  rw [e1] at hnx
  refine ⟨fun _ => ⟨fun _ => ⟨fun _ => ⟨fun _ => ⟨hb', x, hx, hs, (Num_Text_awake hnx).mono fun v V6 l6 hv => ⟨_, hv, fun _ => ⟨true, eqAt_gate, rfl⟩, fun h => ?_⟩⟩, fun h => ?_⟩, fun h => ?_⟩, fun h => ?_⟩, fun h => ?_⟩
  · simp at h
  · simp [hl] at h
  · simp at h
  · simp at h
  · simp at h
end Go.Proofs.Ytcapadojlaojkaa

set_option maxRecDepth 100000
set_option maxHeartbeats 4000000
namespace Go.Proofs.Ytcapadojlaojkaa
open Go Go.Vc Go.Proofs

/-- waveport/waveportlaw07.small -/
theorem waveportlaw07_small_vc (p0 : RatV) (V : View) (R : Value → View → Prop) 
  (h :
    ((decide (((Int.tmod p0.den 6) : Int) < 0)) = true →
      R ((RatV.mk (Int.tmod p0.re 21) (Int.tmod p0.im 21) (IntKind.i64.wrap ((IntKind.i64.wrap (0 - (Int.tmod p0.den 6))) + 1))).val) V) ∧
    ((decide (((Int.tmod p0.den 6) : Int) < 0)) = false →
      R ((RatV.mk (Int.tmod p0.re 21) (Int.tmod p0.im 21) (IntKind.i64.wrap ((Int.tmod p0.den 6) + 1))).val) V)) :
  CallV Try.prog 75 #[p0.val] V R :=
  calls_of_vc (Shp := Shp) hmixed Try.func75 (c := Try.f75.body.getD .skip) (args := [p0.val]) (by kernel_rfl)
    (.seq (.reg [⟨1, 3, false⟩, ⟨2, 3, false⟩]) (.seq (.reg [⟨4, 7, false⟩, ⟨1, 4, false⟩, ⟨6, 0, false⟩, ⟨3, 2, false⟩]) (.seq (.seq (.reg [⟨7, 2, false⟩, ⟨8, 0, false⟩]) (.cond (.reg [⟨9, 2, false⟩, ⟨10, 0, false⟩, ⟨3, 2, false⟩]) .leaf)) (.seq (.reg [⟨11, 7, false⟩, ⟨1, 4, false⟩, ⟨13, 0, false⟩, ⟨14, 7, false⟩, ⟨1, 4, false⟩, ⟨16, 0, false⟩, ⟨17, 2, false⟩, ⟨18, 0, false⟩, ⟨19, 0, false⟩, ⟨2, 6, false⟩]) .leaf))))
    (Eq.mpr (by kernel_rfl) h)

structure L_waveportlaw07_repeated_0 where
  t11 : Int
  o8 : List Value
/-- waveport/waveportlaw07.repeated -/
theorem waveportlaw07_repeated_vc (p0 : Sl) (p1 : Int) (V : View) (R : Value → View → Prop) (I_waveportlaw07_repeated_0 : Unit → L_waveportlaw07_repeated_0 → View → Prop) (mu_waveportlaw07_repeated_0 : Unit → L_waveportlaw07_repeated_0 → View → Nat)
  (h :
    ((0 : Int) ≤ p1 ∧ (p1 : Int) ≤ p1 ∧ (24 : Int) * p1 ≤ 281474976710656 ∧ (p1 : Int) ≤ 9223372036854775807) ∧
    I_waveportlaw07_repeated_0 () (L_waveportlaw07_repeated_0.mk 0 ((List.replicate (Int.toNat p1) [Value.int .i64 0, Value.int .i64 0, Value.int .i64 0]).flatten)) V ∧
    (∀ (x2 : L_waveportlaw07_repeated_0) (V1 : View), View.le V V1 → I_waveportlaw07_repeated_0 () x2 V1 →
      ((decide ((x2.t11 : Int) < ((Int.toNat p1 : Nat) : Int))) = true →
        ((decide (((p0.len : Int) : Int) > 0)) = true →
        ((p0.len : Int) : Int) ≠ 0 ∧
        ((0 : Int) ≤ (Int.tmod x2.t11 (p0.len : Int)) ∧ ((Int.tmod x2.t11 (p0.len : Int)) : Int) < (p0.len : Nat) ∧ Option.isSome p0.a = true) ∧
        ∃ x3 : RatV, View.has V1 (Option.map (fun q => Addr.add q (Int.toNat (Int.tmod x2.t11 (p0.len : Int)) * 3)) p0.a) (x3.val).cells.toList ∧ Option.isSome (Option.map (fun q => Addr.add q (Int.toNat (Int.tmod x2.t11 (p0.len : Int)) * 3)) p0.a) = true ∧
        CallV Try.prog 75 #[x3.val] V1 fun v V2 => ∃ r1 : RatV, v = r1.val ∧ -- waveportlaw07.small
        ((0 : Int) ≤ x2.t11 ∧ (x2.t11 : Int) < (Int.toNat p1 : Nat)) ∧
        0 + Int.toNat x2.t11 * 3 + 3 ≤ List.length x2.o8 ∧
        I_waveportlaw07_repeated_0 () (L_waveportlaw07_repeated_0.mk (IntKind.i64.wrap (x2.t11 + 1)) (setL x2.o8 (0 + Int.toNat x2.t11 * 3) [.int .i64 r1.re, .int .i64 r1.im, .int .i64 r1.den])) V2 ∧ mu_waveportlaw07_repeated_0 () (L_waveportlaw07_repeated_0.mk (IntKind.i64.wrap (x2.t11 + 1)) (setL x2.o8 (0 + Int.toNat x2.t11 * 3) [.int .i64 r1.re, .int .i64 r1.im, .int .i64 r1.den])) V2 < mu_waveportlaw07_repeated_0 () x2 V1) ∧
      ((decide (((p0.len : Int) : Int) > 0)) = false →
        I_waveportlaw07_repeated_0 () (L_waveportlaw07_repeated_0.mk (IntKind.i64.wrap (x2.t11 + 1)) x2.o8) V1 ∧ mu_waveportlaw07_repeated_0 () (L_waveportlaw07_repeated_0.mk (IntKind.i64.wrap (x2.t11 + 1)) x2.o8) V1 < mu_waveportlaw07_repeated_0 () x2 V1)) ∧
      ((decide ((x2.t11 : Int) < ((Int.toNat p1 : Nat) : Int))) = false →
        ∀ (b1 : Nat) (V3 : View), View.le V1 V3 → V3 b1 = some (List.toArray x2.o8) →
    R ((Sl.mk (some (Addr.mk b1 0 none)) (Int.toNat p1) (Int.toNat p1)).v) V3))) :
  CallV Try.prog 24 #[p0.v, .int .i64 p1] V R :=
  calls_of_vc (Shp := Shp) hmixed Try.func24 (c := Try.f24.body.getD .skip) (args := [p0.v, .int .i64 p1]) (by kernel_rfl)
    (.seq (.reg [⟨4, 2, false⟩]) (.seq (.reg [⟨7, 2, false⟩, ⟨8, 3, false⟩, ⟨5, 2, false⟩]) (.seq (.seq (.reg [⟨9, 2, false⟩, ⟨10, 7, false⟩, ⟨11, 2, false⟩]) (.block (.loop Unit L_waveportlaw07_repeated_0 (fun _ => ()) (fun c x => { tm := spT 30 0 [(0, .val (p0.v)), (5, .osl 8 0 (Int.toNat p1) (Int.toNat p1)), (10, .val (.int .i64 ((Int.toNat p1 : Nat) : Int))), (11, .val (.int .i64 x.t11))], own := spO 30 0 [(8, ⟨59, .dyn x.o8⟩)] }) I_waveportlaw07_repeated_0 mu_waveportlaw07_repeated_0 (.seq (.reg [⟨12, 0, false⟩]) (.seq (.cond .leaf .leaf) (.seq (.block (.seq (.reg [⟨13, 2, false⟩, ⟨6, 2, false⟩]) (.seq (.reg [⟨14, 2, false⟩, ⟨15, 0, false⟩, ⟨16, 0, false⟩]) (.cond (.reg [⟨17, 2, false⟩, ⟨18, 2, false⟩, ⟨19, 2, false⟩, ⟨20, 2, false⟩, ⟨21, 2, false⟩, ⟨22, 0, false⟩, ⟨23, 12, false⟩, ⟨24, 7, false⟩, ⟨25, 5, false⟩, ⟨26, 10, false⟩, ⟨27, 7, false⟩, ⟨8, 6, false⟩]) .leaf)))) (.reg [⟨28, 0, false⟩, ⟨11, 2, false⟩]))))))) (.seq (.reg [⟨29, 2, false⟩, ⟨4, 2, false⟩]) (.pub 8 .leaf)))))
    (Eq.mpr (by kernel_rfl) (show ((0 : Int) ≤ p1 ∧ (p1 : Int) ≤ p1 ∧ (24 : Int) * p1 ≤ 281474976710656 ∧ (p1 : Int) ≤ 9223372036854775807) ∧
    (∃ x1 : L_waveportlaw07_repeated_0, ((SV.val (p0.v) = SV.val (p0.v) ∧ SV.osl 8 0 (Int.toNat p1) (Int.toNat p1) = SV.osl 8 0 (Int.toNat p1) (Int.toNat p1) ∧ SV.val (.int .i64 ((Int.toNat p1 : Nat) : Int)) = SV.val (.int .i64 ((Int.toNat p1 : Nat) : Int)) ∧ SV.val (.int .i64 0) = SV.val (.int .i64 x1.t11) ∧ True) ∧ ((some (⟨59, .dyn ((List.replicate (Int.toNat p1) [Value.int .i64 0, Value.int .i64 0, Value.int .i64 0]).flatten)⟩) : Option OB) = some (⟨59, .dyn x1.o8⟩) ∧ True)) ∧ I_waveportlaw07_repeated_0 () x1 V) ∧
    (∀ (x2 : L_waveportlaw07_repeated_0) (V1 : View), View.le V V1 → I_waveportlaw07_repeated_0 () x2 V1 →
      ((decide ((x2.t11 : Int) < ((Int.toNat p1 : Nat) : Int))) = true →
        ((decide (((p0.len : Int) : Int) > 0)) = true →
        ((p0.len : Int) : Int) ≠ 0 ∧
        ((0 : Int) ≤ (Int.tmod x2.t11 (p0.len : Int)) ∧ ((Int.tmod x2.t11 (p0.len : Int)) : Int) < (p0.len : Nat) ∧ Option.isSome p0.a = true) ∧
        ∃ x3 : RatV, View.has V1 (Option.map (fun q => Addr.add q (Int.toNat (Int.tmod x2.t11 (p0.len : Int)) * 3)) p0.a) (x3.val).cells.toList ∧ Option.isSome (Option.map (fun q => Addr.add q (Int.toNat (Int.tmod x2.t11 (p0.len : Int)) * 3)) p0.a) = true ∧
        CallV Try.prog 75 #[x3.val] V1 fun v V2 => ∃ r1 : RatV, v = r1.val ∧ -- waveportlaw07.small
        ((0 : Int) ≤ x2.t11 ∧ (x2.t11 : Int) < (Int.toNat p1 : Nat)) ∧
        0 + Int.toNat x2.t11 * 3 + 3 ≤ List.length x2.o8 ∧
        ∃ x4 : L_waveportlaw07_repeated_0, ((SV.val (p0.v) = SV.val (p0.v) ∧ SV.osl 8 0 (Int.toNat p1) (Int.toNat p1) = SV.osl 8 0 (Int.toNat p1) (Int.toNat p1) ∧ SV.val (.int .i64 ((Int.toNat p1 : Nat) : Int)) = SV.val (.int .i64 ((Int.toNat p1 : Nat) : Int)) ∧ SV.val (.int .i64 (IntKind.i64.wrap (x2.t11 + 1))) = SV.val (.int .i64 x4.t11) ∧ True) ∧ ((some (⟨59, .dyn (setL x2.o8 (0 + Int.toNat x2.t11 * 3) [.int .i64 r1.re, .int .i64 r1.im, .int .i64 r1.den])⟩) : Option OB) = some (⟨59, .dyn x4.o8⟩) ∧ True)) ∧ I_waveportlaw07_repeated_0 () x4 V2 ∧ mu_waveportlaw07_repeated_0 () x4 V2 < mu_waveportlaw07_repeated_0 () x2 V1) ∧
      ((decide (((p0.len : Int) : Int) > 0)) = false →
        ∃ x5 : L_waveportlaw07_repeated_0, ((SV.val (p0.v) = SV.val (p0.v) ∧ SV.osl 8 0 (Int.toNat p1) (Int.toNat p1) = SV.osl 8 0 (Int.toNat p1) (Int.toNat p1) ∧ SV.val (.int .i64 ((Int.toNat p1 : Nat) : Int)) = SV.val (.int .i64 ((Int.toNat p1 : Nat) : Int)) ∧ SV.val (.int .i64 (IntKind.i64.wrap (x2.t11 + 1))) = SV.val (.int .i64 x5.t11) ∧ True) ∧ ((some (⟨59, .dyn x2.o8⟩) : Option OB) = some (⟨59, .dyn x5.o8⟩) ∧ True)) ∧ I_waveportlaw07_repeated_0 () x5 V1 ∧ mu_waveportlaw07_repeated_0 () x5 V1 < mu_waveportlaw07_repeated_0 () x2 V1)) ∧
      ((decide ((x2.t11 : Int) < ((Int.toNat p1 : Nat) : Int))) = false →
        ∀ (b1 : Nat) (V3 : View), View.le V1 V3 → V3 b1 = some (List.toArray x2.o8) →
    R ((Sl.mk (some (Addr.mk b1 0 none)) (Int.toNat p1) (Int.toNat p1)).v) V3)) from ⟨h.1, ⟨⟨(L_waveportlaw07_repeated_0.mk 0 ((List.replicate (Int.toNat p1) [Value.int .i64 0, Value.int .i64 0, Value.int .i64 0]).flatten)), ⟨⟨rfl, rfl, rfl, rfl, trivial⟩, ⟨rfl, trivial⟩⟩, h.2.1⟩, fun x2 V1 h10 h11 => ⟨fun h9 => ⟨fun h6 => ⟨(((h.2.2 x2 V1 h10 h11).1 h9).1 h6).1, ⟨(((h.2.2 x2 V1 h10 h11).1 h9).1 h6).2.1, (match (((h.2.2 x2 V1 h10 h11).1 h9).1 h6).2.2 with | ⟨x3, h4, h5, h3⟩ => ⟨x3, h4, h5, (CallV.mono h3 (fun _ _ _ ⟨r1, h2, h1⟩ => ⟨r1, h2, ⟨h1.1, ⟨h1.2.1, ⟨(L_waveportlaw07_repeated_0.mk (IntKind.i64.wrap (x2.t11 + 1)) (setL x2.o8 (0 + Int.toNat x2.t11 * 3) [.int .i64 r1.re, .int .i64 r1.im, .int .i64 r1.den])), ⟨⟨rfl, rfl, rfl, rfl, trivial⟩, ⟨rfl, trivial⟩⟩, h1.2.2.1, h1.2.2.2⟩⟩⟩⟩))⟩)⟩⟩, fun h6 => ⟨(L_waveportlaw07_repeated_0.mk (IntKind.i64.wrap (x2.t11 + 1)) x2.o8), ⟨⟨rfl, rfl, rfl, rfl, trivial⟩, ⟨rfl, trivial⟩⟩, (((h.2.2 x2 V1 h10 h11).1 h9).2 h6).1, (((h.2.2 x2 V1 h10 h11).1 h9).2 h6).2⟩⟩, fun h9 => (fun b1 V3 h7 h8 => (((h.2.2 x2 V1 h10 h11).2 h9) b1 V3 h7 h8))⟩⟩⟩))

/-- waveport/transform.of[waveport/num.Num] -/
theorem transform_of_num_Num__vc (p0 : Int) (p1 : Int) (V : View) (R : Value → View → Prop) 
  (h :
    CallV Try.prog 59 #[.int .i64 p0, .int .i64 0, .int .i64 p1] V fun v V1 => ∃ (r1 : NumV) (r2 : Int), v = .tuple #[r1.val, .int .i64 r2] ∧ -- num.New
    CallV Try.prog 232 #[(NumV.mk (WhV.mk false (Sl.mk none 0 0)) (WhV.mk false (Sl.mk none 0 0)) (Sl.mk none 0 0)).val, r1.val] V1 fun v V2 => ∃ r3 : NumV, v = r3.val ∧ -- (num.Num).Of
    R (r3.val) V2) :
  CallV Try.prog 78 #[.int .i64 p0, .int .i64 p1] V R :=
  calls_of_vc (Shp := Shp) hmixed Try.func78 (c := Try.f78.body.getD .skip) (args := [.int .i64 p0, .int .i64 p1]) (by kernel_rfl)
    (.seq (.reg [⟨4, 3, false⟩]) (.seq (.reg [⟨5, 3, false⟩]) (.seq (.reg [⟨9, 2, false⟩, ⟨10, 2, false⟩, ⟨11, 10, false⟩, ⟨8, 2, false⟩, ⟨12, 0, false⟩, ⟨13, 0, false⟩, ⟨6, 3, false⟩, ⟨6, 6, false⟩, ⟨7, 2, false⟩]) (.seq (.reg [⟨5, 4, false⟩, ⟨15, 0, false⟩, ⟨6, 4, false⟩, ⟨17, 10, false⟩, ⟨4, 6, false⟩]) .leaf))))
    (Eq.mpr (by kernel_rfl) h)

end Go.Proofs.Ytcapadojlaojkaa

namespace Go.Proofs.Ytcapadojlaojkaa
open Go Go.Vc Go.Proofs

/-- A number of small parts. -/
def smallR (r : RatV) : RatV := ⟨Int.tmod r.re 21, Int.tmod r.im 21, ((Int.tmod r.den 6).natAbs + 1 : Nat)⟩
def tame (r : RatV) : Prop := (-20 ≤ r.re ∧ r.re ≤ 20) ∧ (-20 ≤ r.im ∧ r.im ≤ 20) ∧ 0 ≤ r.den ∧ r.den ≤ 6
theorem tame.ok {r : RatV} (h : tame r) : ratI r := by
  obtain ⟨⟨a, b⟩, ⟨c, d⟩, e, f⟩ := h
  exact ⟨⟨by omega, by omega⟩, ⟨by omega, by omega⟩, ⟨by omega, by omega⟩⟩
theorem tmod_range (a : Int) {b : Int} (hb : 0 < b) : -b < Int.tmod a b ∧ Int.tmod a b < b := by
  have h1 := Int.tmod_lt_of_pos a hb
  have h2 := Int.tmod_lt_of_pos (-a) hb
  rw [Int.neg_tmod] at h2
  omega
theorem smallR_tame (r : RatV) : tame (smallR r) := by
  have h1 := tmod_range r.re (b := 21) (by omega)
  have h2 := tmod_range r.im (b := 21) (by omega)
  have h3 := tmod_range r.den (b := 6) (by omega)
  refine ⟨⟨?_, ?_⟩, ⟨?_, ?_⟩, ?_, ?_⟩ <;> simp only [smallR] <;> omega
theorem tame_zero : tame ⟨0, 0, 0⟩ := ⟨⟨by decide, by decide⟩, ⟨by decide, by decide⟩, by decide, by decide⟩
theorem tame_sz {r : RatV} (h : tame r) : (ratQ r).sz ≤ 5 := by
  obtain ⟨⟨a, b⟩, ⟨c, d⟩, e, f⟩ := h
  have key : Rep (ratQ r) r.re r.im (if r.den = 0 then 1 else r.den.toNat) := by
    unfold ratQ
    split
    · refine ⟨by omega, ?_, ?_⟩ <;> simp only [] <;> rw [Rat.div_def] <;> simp <;> grind
    · have e : ((r.den.toNat : Nat) : Rat) = (r.den : Rat) := by
        have : ((r.den.toNat : Nat) : Int) = r.den := by omega
        rw [← this]; rfl
      exact ⟨by omega, by simp only [e], by simp only [e]⟩
  refine key.sz ?_ ?_ ?_
  · exact bl_le_of_lt (by omega)
  · exact bl_le_of_lt (by omega)
  · exact bl_le_of_lt (by split <;> omega)

theorem small_spec {V : View} (r : RatV) : CallV Try.prog n_waveportlaw07_small #[r.val] V fun v V' => v = (smallR r).val := by
  have h3 := tmod_range r.den (b := 6) (by omega)
  refine waveportlaw07_small_vc r V _ ⟨fun h => ?_, fun h => ?_⟩
  · simp only [decide_eq_true_eq] at h
    rw [i64w (n := 0 - Int.tmod r.den 6) (by omega) (by omega), i64w (by omega) (by omega)]
    have e : 0 - Int.tmod r.den 6 + 1 = (((Int.tmod r.den 6).natAbs + 1 : Nat) : Int) := by omega
    rw [e]; rfl
  · simp only [decide_eq_false_iff_not] at h
    rw [i64w (by omega) (by omega)]
    have e : Int.tmod r.den 6 + 1 = (((Int.tmod r.den 6).natAbs + 1 : Nat) : Int) := by omega
    rw [e]; rfl

def rnth (rs : List RatV) (i : Nat) : RatV := rs.getD i ⟨0, 0, 0⟩
def repeatedR (rs : List RatV) (n : Nat) : List RatV := (List.range n).map fun i => if rs = [] then ⟨0, 0, 0⟩ else smallR (rnth rs (i % rs.length))
theorem repeatedR_tame (rs : List RatV) (n : Nat) : ∀ r ∈ repeatedR rs n, tame r := by
  intro r hr
  obtain ⟨i, _, rfl⟩ := List.mem_map.1 hr
  split
  · exact tame_zero
  · exact smallR_tame _
def rfilled (n k : Nat) (f : Nat → RatV) : List RatV := (List.range k).map f ++ List.replicate (n - k) ⟨0, 0, 0⟩
theorem rfilled_length {n k : Nat} (h : k ≤ n) (f : Nat → RatV) : (rfilled n k f).length = n := by simp [rfilled]; omega
theorem rfilled_set {n k : Nat} (h : k < n) (f : Nat → RatV) : (rfilled n k f).set k (f k) = rfilled n (k + 1) f := by
  unfold rfilled
  rw [List.set_append_right _ _ (by simp)]
  simp only [List.length_map, List.length_range, Nat.sub_self]
  have : n - k = (n - (k + 1)) + 1 := by omega
  rw [this, List.replicate_succ, List.set_cons_zero, List.range_succ, List.map_append]; simp

theorem repeated_spec {V : View} {s : Sl} {rs : List RatV} {n : Nat} (h : RatsAt V s rs) (hr : rs.length < 2 ^ 64) (hn : n ≤ 2 ^ 32) :
    CallV Try.prog n_waveportlaw07_repeated #[s.v, .int .i64 (n : Int)] V fun v V' => ∃ r : Sl, v = r.v ∧ RatsAt V' r (repeatedR rs n) := by
  have hl := h.len
  let f : Nat → RatV := fun i => if rs = [] then ⟨0, 0, 0⟩ else smallR (rnth rs (i % rs.length))
  refine waveportlaw07_repeated_vc s (n : Int) V _ (fun _ x V' => 0 ≤ x.t11 ∧ x.t11 ≤ n ∧ Cells 3 ratC V' x.o8 (rfilled n x.t11.toNat f)) (fun _ x _ => n - x.t11.toNat) ⟨⟨by omega, by omega, by omega, by omega⟩, ⟨Int.le_refl 0, Int.natCast_nonneg _, ?_⟩, ?_⟩
  · rw [Int.toNat_natCast]
    show Cells 3 ratC V _ (rfilled n 0 f)
    have e : rfilled n 0 f = List.replicate n ⟨0, 0, 0⟩ := by simp [rfilled]
    rw [e]
    exact Cells.replicate rfl (ratC_of V 0 0 0) n
  rintro ⟨t, o⟩ V1 l1 ⟨h0, h1, hin⟩
  dsimp only at h0 h1 hin ⊢
  rw [Int.toNat_natCast]
  refine ⟨fun hlt => ?_, fun hge => ?_⟩
  · simp only [decide_eq_true_eq] at hlt
    have hkn : t.toNat < n := by omega
    have e1 : IntKind.i64.wrap (t + 1) = t + 1 := i64w (by omega) (by omega)
    have e2 : (t + 1).toNat = t.toNat + 1 := by omega
    rw [e1]
    refine ⟨fun hp => ?_, fun hz => ?_⟩
    · simp only [gt_iff_lt, decide_eq_true_eq] at hp
      have hm : Int.tmod t (s.len : Int) = ((t.toNat % rs.length : Nat) : Int) := by
        rw [Int.tmod_eq_emod_of_nonneg h0, hl]
        conv => lhs; rw [← Int.toNat_of_nonneg h0]
        rfl
      have hmlt : t.toNat % rs.length < rs.length := Nat.mod_lt _ (by omega)
      rw [hm]
      obtain ⟨hb, x, hx, _, hh, hs⟩ := ListAt.get (h.le l1) (t := ((t.toNat % rs.length : Nat) : Int)) (Int.natCast_nonneg _) (z := rnth rs (t.toNat % rs.length)) (by rw [Int.toNat_natCast]; simp [rnth, List.getD, hmlt])
      refine ⟨by omega, hb, rnth rs (t.toNat % rs.length), hx ▸ hh, hs, (small_spec _).mono fun v V2 l2 hv => ⟨_, hv, ⟨h0, hlt⟩, Cells.room hin (by rw [rfilled_length (by omega)]; omega), ⟨by omega, by omega, ?_⟩, by omega⟩⟩
      rw [e2, ← rfilled_set hkn]
      have ef : f t.toNat = smallR (rnth rs (t.toNat % rs.length)) := by
        simp only [f]; rw [if_neg (by intro e; subst e; simp at hl; omega)]
      rw [ef]
      exact Cells.set0 (Cells.imp (P := ratC) (V := V1) (P' := ratC) (V' := V2) (fun _ _ h => h) hin) (by rw [rfilled_length (by omega)]; omega) rfl (ratC_of V2 _ _ _)
    · simp only [gt_iff_lt, decide_eq_false_iff_not] at hz
      refine ⟨⟨by omega, by omega, ?_⟩, by omega⟩
      have he : rs = [] := by apply List.eq_nil_of_length_eq_zero; omega
      rw [e2, ← rfilled_set hkn]
      have ef : f t.toNat = ⟨0, 0, 0⟩ := by simp only [f]; rw [if_pos he]
      rw [ef]
      have : (rfilled n t.toNat f).set t.toNat ⟨0, 0, 0⟩ = rfilled n t.toNat f := by
        apply List.ext_getElem (by simp)
        intro i g1 g2
        rw [List.getElem_set]
        split
        · rename_i e; subst e
          simp only [rfilled]
          rw [List.getElem_append_right (by simp)]; simp
        · rfl
      rw [this]; exact hin
  · simp only [decide_eq_false_iff_not] at hge
    intro b V3 l3 hb
    have e : t.toNat = n := by omega
    rw [e] at hin
    have e2 : rfilled n n f = repeatedR rs n := by simp [rfilled, repeatedR, f]
    rw [e2] at hin
    exact ⟨_, rfl, ListAt.of_made hb (Cells.imp (P := ratC) (V := V1) (P' := ratC) (V' := V3) (fun _ _ h => h) hin) (by simp [repeatedR])⟩

/-- The numbers that a law is tried at. -/
def exactQ (rs : List RatV) (n : Nat) : List Cq := (repeatedR rs n).map ratQ
theorem exactQ_length (rs : List RatV) (n : Nat) : (exactQ rs n).length = n := by simp [exactQ, repeatedR]
theorem exactQ_sz (rs : List RatV) (n : Nat) : ∀ i, i < n → (nth (exactQ rs n) i).sz ≤ 5 := by
  intro i hi
  have h : nth (exactQ rs n) i ∈ exactQ rs n := by
    have hl := exactQ_length rs n
    have : nth (exactQ rs n) i = (exactQ rs n)[i] := by simp [nth, List.getD, hl, hi]
    rw [this]; exact List.getElem_mem _
  obtain ⟨r, hr, e⟩ := List.mem_map.1 h
  rw [← e]; exact tame_sz (repeatedR_tame rs n r hr)
theorem of_spec {V : View} {p q : Int} (p0 : -9223372036854775808 ≤ p) (p1 : p ≤ 9223372036854775807) (q0 : -9223372036854775808 ≤ q) (q1 : q ≤ 9223372036854775807) (hq : q ≠ 0) :
    CallV Try.prog n_transform_of_num_Num_ #[.int .i64 p, .int .i64 q] V fun v V' => ∃ r : NumV, v = r.val ∧ NumAt V' r ⟨(p : Rat) / (q : Rat), ((0 : Int) : Rat) / (q : Rat)⟩ := by
  refine transform_of_num_Num__vc p q V _ ((num_New_spec p0 p1 (by omega) (by omega) q0 q1 hq).mono fun v V1 l1 ⟨r, hv, hr⟩ => ⟨r, 0, hv, ?_⟩)
  exact (Num_Of_spec hr).mono fun v V2 l2 ⟨r3, hv, h3⟩ => ⟨r3, hv, r3, rfl, h3⟩

end Go.Proofs.Ytcapadojlaojkaa

namespace Go.Proofs.Ytcapadojlaojkaa
open Go Go.Vc Go.Proofs

theorem lenB_pow : ∀ m ∈ List.range 7, lenB (2 ^ m) = true := by decide

end Go.Proofs.Ytcapadojlaojkaa

namespace Go.Proofs.Ytcapadojlaojkaa
open Go Go.Vc Go.Proofs

theorem ratQ_sz {r : RatV} (h : ratI r) : (ratQ r).sz ≤ 64 := by
  obtain ⟨⟨a, b⟩, ⟨c, d⟩, e, f⟩ := h
  have key : Rep (ratQ r) (if r.den < 0 then -r.re else r.re) (if r.den < 0 then -r.im else r.im) (if r.den = 0 then 1 else r.den.natAbs) := by
    unfold ratQ
    split
    · rename_i h0
      have : ¬ r.den < 0 := by omega
      rw [if_neg this, if_neg this]
      refine ⟨by omega, ?_, ?_⟩ <;> simp only [] <;> rw [Rat.div_def] <;> simp <;> grind
    · by_cases hn : r.den < 0
      · rw [if_pos hn, if_pos hn]
        have hd : (r.den : Rat) ≠ 0 := by
          intro e0
          have := Rat.intCast_inj.1 (e0.trans Rat.intCast_zero.symm)
          omega
        have e : ((r.den.natAbs : Nat) : Rat) = -(r.den : Rat) := by
          have e1 : ((r.den.natAbs : Nat) : Rat) = (((r.den.natAbs : Nat) : Int) : Rat) := rfl
          have e2 : ((r.den.natAbs : Nat) : Int) = -r.den := by omega
          rw [e1, e2, Rat.intCast_neg]
        refine ⟨by omega, ?_, ?_⟩ <;> simp only [e, Rat.intCast_neg] <;> grind
      · rw [if_neg hn, if_neg hn]
        have e : ((r.den.natAbs : Nat) : Rat) = (r.den : Rat) := by
          have e2 : ((r.den.natAbs : Nat) : Int) = r.den := by omega
          conv => rhs; rw [← e2]
          rfl
        exact ⟨by omega, by simp only [e], by simp only [e]⟩
  refine key.sz ?_ ?_ ?_
  · exact bl_le_of_lt (by split <;> omega)
  · exact bl_le_of_lt (by split <;> omega)
  · exact bl_le_of_lt (by split <;> omega)

theorem zeroQ_eq : (⟨((0 : Int) : Rat) / ((1 : Int) : Rat), ((0 : Int) : Rat) / ((1 : Int) : Rat)⟩ : Cq) = Cq.zero := Cq.ext' (by simp [Rat.div_def]; rfl) (by simp [Rat.div_def]; rfl)

end Go.Proofs.Ytcapadojlaojkaa

namespace Go.Vc
open Go

/-- A place that holds the number, if there is one yet. -/
def optC (P : View → List Value → Cq → Prop) (V : View) (x : List Value) (o : Option Cq) : Prop := ∀ z, o = some z → P V x z
def OptIn (P : View → List Value → Cq → Prop) (V : View) (o : List Value) (n : Nat) (f : Nat → Option Cq) : Prop := Cells 5 (optC P) V o ((List.range n).map f)
section
variable {P : View → List Value → Cq → Prop} {V V' : View} {o : List Value} {n : Nat} {f g : Nat → Option Cq}
theorem OptIn.le (hP : ∀ x z, P V x z → P V' x z) (h : OptIn P V o n f) : OptIn P V' o n f := Cells.imp (P := optC P) (V := V) (P' := optC P) (V' := V') (fun x _ hx z e => hP x z (hx z e)) h
theorem OptIn.length (h : OptIn P V o n f) : o.length = n * 5 := by have := Cells.length h; simpa using this
theorem OptIn.room (h : OptIn P V o n f) {i : Nat} (hi : i < n) : 0 + i * 5 + 5 ≤ o.length := Cells.room h (by simpa using hi)
theorem OptIn.congr (h : OptIn P V o n f) (e : ∀ p, p < n → f p = g p) : OptIn P V o n g := by
  unfold OptIn
  have : (List.range n).map g = (List.range n).map f := List.map_congr_left fun p hp => (e p (by simpa using hp)).symm
  rw [this]; exact h
theorem OptIn.zeros (P : View → List Value → Cq → Prop) (V : View) (n : Nat) : OptIn P V ((List.replicate n [Value.bool false, Value.slice none 0 0, Value.bool false, Value.slice none 0 0, Value.slice none 0 0]).flatten) n (fun _ => none) := by
  unfold OptIn
  have e : (List.range n).map (fun _ => (none : Option Cq)) = List.replicate n none := by
    apply List.ext_getElem (by simp)
    intro i h1 h2; simp
  rw [e]
  exact Cells.replicate (x := [Value.bool false, Value.slice none 0 0, Value.bool false, Value.slice none 0 0, Value.slice none 0 0]) rfl (by intro z hz; simp at hz) n
theorem OptIn.set (h : OptIn P V o n f) {i : Nat} (hi : i < n) {y : List Value} (hy : y.length = 5) {z : Cq} (hz : P V y z) : OptIn P V (setL o (0 + i * 5) y) n (fun p => if p = i then some z else f p) := by
  have h1 := Cells.set0 h (i := i) (z := some z) (by simpa using hi) hy (by intro z' e; cases e; exact hz)
  unfold OptIn
  have e : (List.range n).map (fun p => if p = i then some z else f p) = ((List.range n).map f).set i (some z) := by
    apply List.ext_getElem (by simp)
    intro j h1 h2
    rw [List.getElem_set]
    simp only [List.getElem_map, List.getElem_range]
    by_cases c : j = i
    · subst c; simp
    · have c' : ¬ i = j := fun x => c x.symm
      simp [c, c']
  rw [e]; exact h1
theorem cells_some : ∀ {zs : List Cq} {o : List Value}, Cells 5 (optC P) V o (zs.map some) → Cells 5 P V o zs
  | [], _, h => h
  | _ :: _, _, ⟨x, o', e, hx, p, h⟩ => ⟨x, o', e, hx, p _ rfl, cells_some h⟩
theorem OptIn.all {F : Nat → Cq} (h : OptIn P V o n f) (e : ∀ p, p < n → f p = some (F p)) : Cells 5 P V o ((List.range n).map F) := by
  unfold OptIn at h
  have h2 : (List.range n).map f = ((List.range n).map F).map some := by
    rw [List.map_map]
    exact List.map_congr_left fun p hp => e p (by simpa using hp)
  rw [h2] at h
  exact cells_some h
/-- What is stored already can be read. -/
theorem OptIn.get (h : OptIn P V o n f) {i : Nat} (hi : i < n) {z : Cq} (hz : f i = some z) : ∃ x, P V x z ∧ x.length = 5 ∧ (o.drop (0 + i * 5)).take 5 = x := by
  obtain ⟨x, p, hx, hg⟩ := Cells.get h (i := i) (z := some z) (by simp [hi, hz])
  refine ⟨x, p z rfl, hx, ?_⟩
  have hl := h.room hi
  apply List.ext_getElem?
  intro j
  rcases Nat.lt_or_ge j 5 with hj | hj
  · have hjx : j < x.length := by omega
    have := hg j x[j] (by simp [hjx])
    rw [List.getElem?_take_of_lt hj, List.getElem?_drop, Nat.zero_add, this]
    simp [hjx]
  · rw [List.getElem?_eq_none (by simp; omega), List.getElem?_eq_none (by omega)]
end

/-- How far a list is moved: the remainder that is not below 0. -/
def modB (by' : Int) (n : Nat) : Nat := (by' % (n : Int)).toNat
theorem modB_lt (b : Int) {n : Nat} (h : 0 < n) : modB b n < n := by
  have h1 := Int.emod_nonneg b (b := (n : Int)) (by omega)
  have h2 := Int.emod_lt_of_pos b (b := (n : Int)) (by omega)
  unfold modB; omega
/-- The place from which a moved element comes. -/
def preP (n b p : Nat) : Nat := if b ≤ p then p - b else p + n - b
theorem preP_eq {n b p k : Nat} (hb : b < n) (hp : p < n) (hk : k < n) : preP n b p = k ↔ p = (k + b) % n := by
  have e : (k + b) % n = if k + b < n then k + b else k + b - n := by
    split
    · exact Nat.mod_eq_of_lt (by omega)
    · rw [Nat.mod_eq_sub_mod (by omega), Nat.mod_eq_of_lt (by omega)]
  rw [e]; unfold preP
  split <;> split <;> omega
theorem preP_lt {n b p : Nat} (hb : b < n) (hp : p < n) : preP n b p < n := by unfold preP; split <;> omega
def shiftF (zs : List Cq) (b : Int) : List Cq := (List.range zs.length).map fun p => nth zs (preP zs.length (modB b zs.length) p)
theorem shiftF_length (zs : List Cq) (b : Int) : (shiftF zs b).length = zs.length := by simp [shiftF]
theorem shiftF_nth {zs : List Cq} {b : Int} {i : Nat} (h : i < zs.length) : nth (shiftF zs b) i = nth zs (preP zs.length (modB b zs.length) i) := nth_map h _
/-- The place to which an element is moved, as both compute it. -/
theorem moved_prog {n k : Nat} (b : Int) (hk : k < n) (hn : n ≤ 2 ^ 40) : Int.tmod (IntKind.i64.wrap ((IntKind.i64.wrap ((k : Int) + (Int.tmod b (n : Int)))) + (n : Int))) (n : Int) = (((k + modB b n) % n : Nat) : Int) := by
  have h0 : (0 : Int) < n := by omega
  have h1 := Int.emod_nonneg b (b := (n : Int)) (by omega)
  have h2 := Int.emod_lt_of_pos b h0
  have hb := modB_lt b (n := n) (by omega)
  have t1 : Int.tmod b (n : Int) = (modB b n : Int) ∨ Int.tmod b (n : Int) = (modB b n : Int) - n := by
    rw [Int.tmod_eq_emod]
    unfold modB
    split <;> omega
  have e : ∀ m : Nat, m < n → (((k : Int) + (m : Int)) % (n : Int)) = (((k + m) % n : Nat) : Int) := fun m _ => by rw [← Int.natCast_add]; rfl
  rcases t1 with t | t <;> rw [t]
  · rw [i64w (n := (k : Int) + _) (by omega) (by omega), i64w (by omega) (by omega), Int.tmod_eq_emod_of_nonneg (by omega), Int.add_emod_right]
    exact e _ hb
  · rw [i64w (n := (k : Int) + _) (by omega) (by omega), i64w (by omega) (by omega), Int.tmod_eq_emod_of_nonneg (by omega), show (k : Int) + ((modB b n : Int) - n) + n = (k : Int) + (modB b n : Int) by omega]
    exact e _ hb
theorem moved_ref {n k : Nat} (b : Int) (hk : k < n) (hn : n ≤ 2 ^ 40) :
    ((decide (((Int.tmod b (n : Int)) : Int) < 0)) = true → Int.tmod (IntKind.i64.wrap ((k : Int) + (IntKind.i64.wrap ((Int.tmod b (n : Int)) + (n : Int))))) (n : Int) = (((k + modB b n) % n : Nat) : Int)) ∧
    ((decide (((Int.tmod b (n : Int)) : Int) < 0)) = false → Int.tmod (IntKind.i64.wrap ((k : Int) + (Int.tmod b (n : Int)))) (n : Int) = (((k + modB b n) % n : Nat) : Int)) := by
  have h0 : (0 : Int) < n := by omega
  have h1 := Int.emod_nonneg b (b := (n : Int)) (by omega)
  have h2 := Int.emod_lt_of_pos b h0
  have hb := modB_lt b (n := n) (by omega)
  have t1 : Int.tmod b (n : Int) = (modB b n : Int) ∨ Int.tmod b (n : Int) = (modB b n : Int) - n := by
    rw [Int.tmod_eq_emod]
    unfold modB
    split <;> omega
  have e : ∀ m : Nat, m < n → (((k : Int) + (m : Int)) % (n : Int)) = (((k + m) % n : Nat) : Int) := fun m _ => by rw [← Int.natCast_add]; rfl
  constructor
  · intro h
    simp only [decide_eq_true_eq] at h
    rcases t1 with t | t <;> rw [t] at h ⊢
    · omega
    · rw [i64w (n := (modB b n : Int) - n + n) (by omega) (by omega), i64w (by omega) (by omega), Int.tmod_eq_emod_of_nonneg (by omega), show (k : Int) + ((modB b n : Int) - n + n) = (k : Int) + (modB b n : Int) by omega]
      exact e _ hb
  · intro h
    simp only [decide_eq_false_iff_not] at h
    rcases t1 with t | t <;> rw [t] at h ⊢
    · rw [i64w (by omega) (by omega), Int.tmod_eq_emod_of_nonneg (by omega)]
      exact e _ hb
    · omega

/-- The spectrum of a real response. -/
def extendP (zs : List Cq) (d : Cq) (p : Nat) : Cq :=
  if p = 0 then d else if p = zs.length + 1 then Cq.zero else if p < zs.length + 1 then nth zs (p - 1) else (nth zs (2 * (zs.length + 1) - p - 1)).conj
def extendF (zs : List Cq) (d : Cq) : List Cq := (List.range (2 * (zs.length + 1))).map (extendP zs d)
/-- How far it is made behind k steps. -/
def extendI (zs : List Cq) (d : Cq) (k p : Nat) : Option Cq :=
  if p = 0 then some d else if p = zs.length + 1 then some Cq.zero else if p < zs.length + 1 then (if p < k then some (nth zs (p - 1)) else none) else if 2 * (zs.length + 1) - p < k then some (nth zs (2 * (zs.length + 1) - p - 1)).conj else none
theorem extendI_step {zs : List Cq} {d : Cq} {k p : Nat} (h1 : 1 ≤ k) (hk : k < zs.length + 1) (hp : p < 2 * (zs.length + 1)) :
    (if p = 2 * (zs.length + 1) - k then some (nth zs (k - 1)).conj else if p = k then some (nth zs (k - 1)) else extendI zs d k p) = extendI zs d (k + 1) p := by
  unfold extendI
  by_cases e1 : p = 2 * (zs.length + 1) - k
  · subst e1
    rw [if_pos rfl, if_neg (by omega), if_neg (by omega), if_neg (by omega), if_pos (by omega)]
    congr 3; omega
  · rw [if_neg e1]
    by_cases e2 : p = k
    · subst e2
      rw [if_pos rfl, if_neg (by omega), if_neg (by omega), if_pos (by omega), if_pos (by omega)]
    · rw [if_neg e2]
      by_cases c0 : p = 0
      · rw [if_pos c0, if_pos c0]
      · rw [if_neg c0, if_neg c0]
        by_cases c1 : p = zs.length + 1
        · rw [if_pos c1, if_pos c1]
        · rw [if_neg c1, if_neg c1]
          by_cases c2 : p < zs.length + 1
          · rw [if_pos c2, if_pos c2]
            by_cases c3 : p < k
            · rw [if_pos c3, if_pos (by omega)]
            · rw [if_neg c3, if_neg (by omega)]
          · rw [if_neg c2, if_neg c2]
            by_cases c3 : 2 * (zs.length + 1) - p < k
            · rw [if_pos c3, if_pos (by omega)]
            · rw [if_neg c3, if_neg (by omega)]
theorem extendI_all {zs : List Cq} {d : Cq} {p : Nat} (hp : p < 2 * (zs.length + 1)) : extendI zs d (zs.length + 1) p = some (extendP zs d p) := by
  unfold extendI extendP
  by_cases c0 : p = 0
  · rw [if_pos c0, if_pos c0]
  · rw [if_neg c0, if_neg c0]
    by_cases c1 : p = zs.length + 1
    · rw [if_pos c1, if_pos c1]
    · rw [if_neg c1, if_neg c1]
      by_cases c2 : p < zs.length + 1
      · rw [if_pos c2, if_pos c2, if_pos c2]
      · rw [if_neg c2, if_neg c2, if_pos (by omega)]
def zeroEst (zs : List Cq) : Cq :=
  let e := nth zs 0 + (nth zs 0 - nth zs 1)
  (e + e.conj) * ⟨1 / 2, 0⟩
end Go.Vc

namespace Go.Proofs.Ytcapadojlaojkaa
open Go Go.Vc Go.Proofs

theorem QsAt.of_made {V : View} {b n : Nat} {o : List Value} {zs : List Cq} (hb : V b = some o.toArray) (h : QsIn V o zs) (hn : n = zs.length) : QsAt V ⟨some ⟨b, 0, none⟩, n, n⟩ zs := ListAt.of_made hb h hn
theorem q_len5 (r : NumV) : [Value.bool r.re.neg, r.re.mag.v, .bool r.im.neg, r.im.mag.v, r.under.v].length = 5 := rfl

theorem ref1_Of_spec {V : View} {r : RatV} (h : ratI r) : CallV Try.prog n_ref1_Of #[r.val] V fun v V' => ∃ x : NumV, v = x.val ∧ QAt V' x (ratQ r) := by
  obtain ⟨⟨a1, a2⟩, ⟨b1, b2⟩, ⟨c1, c2⟩⟩ := h
  refine ref1_Of_vc r V _ ⟨fun hd => ?_, fun hd => ?_⟩
  · have hd : r.den = 0 := by simpa using hd
    refine (ref1_New_spec a1 a2 b1 b2 (by omega) (by omega) (by omega)).mono fun v V1 _ ⟨x, hv, hx⟩ => ⟨x, 0, hv, x, rfl, ?_⟩
    have e : ratQ r = ⟨((r.re : Int) : Rat) / ((1 : Int) : Rat), ((r.im : Int) : Rat) / ((1 : Int) : Rat)⟩ := by
      unfold ratQ; rw [if_pos hd]
      exact Cq.ext' (by simp only []; grind) (by simp only []; grind)
    rw [e]; exact hx
  · have hd : r.den ≠ 0 := by simpa using hd
    refine (ref1_New_spec a1 a2 b1 b2 c1 c2 hd).mono fun v V1 _ ⟨x, hv, hx⟩ => ⟨x, 0, hv, x, rfl, ?_⟩
    have e : ratQ r = ⟨((r.re : Int) : Rat) / ((r.den : Int) : Rat), ((r.im : Int) : Rat) / ((r.den : Int) : Rat)⟩ := by
      unfold ratQ; rw [if_neg hd]
    rw [e]; exact hx

theorem refList_spec {V : View} {s : Sl} {rs : List RatV} (h : RatsAt V s rs) (hi : ∀ r ∈ rs, ratI r) (hn : rs.length ≤ 2 ^ 32) :
    CallV Try.prog n_waveportlaw07_refList #[s.v] V fun v V' => ∃ r : Sl, v = r.v ∧ QsAt V' r (rs.map ratQ) := by
  have hl := h.len
  let F : Nat → Cq := fun k => nth (rs.map ratQ) k
  refine waveportlaw07_refList_vc s V _ (fun _ x V' => ∃ k : Nat, x.t11 = (k : Int) ∧ k ≤ rs.length ∧ OptIn qC V' x.o8 rs.length (fun p => if p < k then some (F p) else none)) (fun _ x _ => (rs.length - x.t11).toNat) ?_
  rw [hl, Int.toNat_natCast]
  refine ⟨⟨by omega, by omega, by omega, by omega⟩, ⟨0, rfl, by omega, (OptIn.zeros qC V _).congr fun p _ => by simp⟩, ?_⟩
  rintro ⟨t, o⟩ V1 l1 ⟨k, rfl, hk, ho⟩
  dsimp only at ho ⊢
  refine ⟨fun hlt => ?_, fun hge b V3 l3 hb => ?_⟩
  · simp only [decide_eq_true_eq] at hlt
    have hk' : k < rs.length := by omega
    obtain ⟨hb, x, hx, _, hh, hs⟩ := ListAt.get (h.le l1) (t := (k : Int)) (by omega) (z := rs[k]) (by simp [hk'])
    rw [hl] at hb
    refine ⟨hb, rs[k], hx ▸ hh, hs, (ref1_Of_spec (hi _ (List.getElem_mem _))).mono fun v V2 l2 ⟨r, hv, hr⟩ => ⟨r, hv, ⟨by omega, by omega⟩, ?_⟩⟩
    simp only [Int.toNat_natCast]
    rw [i64w (by omega) (by omega)]
    have ho2 := ho.le (qC.le l2)
    refine ⟨ho2.room hk', ⟨k + 1, by omega, by omega, (ho2.set hk' (q_len5 r) (z := F k) ?_).congr fun p _ => ?_⟩, by omega⟩
    · have e : F k = ratQ rs[k] := by simp [F, nth, List.getD, hk']
      rw [e]; exact ⟨r, rfl, hr⟩
    · by_cases c : p = k
      · subst c; simp
      · rw [if_neg c]
        by_cases c2 : p < k
        · rw [if_pos c2, if_pos (by omega)]
        · rw [if_neg c2, if_neg (by omega)]
  · simp only [decide_eq_false_iff_not] at hge
    have hk' : k = rs.length := by omega
    subst hk'
    have ha := (ho.le (qC.le l3)).all (F := F) fun p hp => by rw [if_pos hp]
    have e : (List.range rs.length).map F = rs.map ratQ := by
      have := list_of_nth (rs.map ratQ)
      rw [List.length_map] at this; exact this
    rw [e] at ha
    exact ⟨_, rfl, QsAt.of_made hb ha (by simp)⟩

theorem Shift_spec {V : View} {s : Sl} {zs : List Cq} {b : Int} (h : NumsAt V s zs) (hn : zs.length ≤ 64) :
    CallV Try.prog n_transform_Shift_num_Num_ #[s.v, .int .i64 b] V fun v V' => ∃ r : Sl, v = .tuple #[r.v, .int .i64 0] ∧ NumsAt V' r (shiftF zs b) := by
  have hl := h.len
  let F : Nat → Cq := fun p => nth zs (preP zs.length (modB b zs.length) p)
  refine transform_Shift_num_Num__vc s b V _ (fun _ x V' => ∃ k : Nat, x.t17 = (k : Int) ∧ k ≤ zs.length ∧ OptIn numC V' x.o14 zs.length (fun p => if preP zs.length (modB b zs.length) p < k then some (F p) else none)) (fun _ x _ => (zs.length - x.t17).toNat) ?_
  rw [hl]
  refine ⟨fun h => absurd h (by simp; omega), fun _ => ⟨⟨by omega, by omega, by omega, by omega⟩, ⟨0, rfl, by omega, ?_⟩, ?_⟩⟩
  · rw [Int.toNat_natCast]
    exact (OptIn.zeros numC V _).congr fun p _ => by simp
  rintro ⟨t, o⟩ V1 l1 ⟨k, rfl, hk, ho⟩
  dsimp only at ho ⊢
  refine ⟨fun hlt => ?_, fun hge b V3 l3 hb => ?_⟩
  · simp only [decide_eq_true_eq] at hlt
    have hk' : k < zs.length := by omega
    have hm := modB_lt b (n := zs.length) (by omega)
    rw [moved_prog b hk' (by omega)]
    obtain ⟨hb, x, hx, hs, hnx⟩ := (h.le l1).get (t := (k : Int)) (by omega) (by rw [Int.toNat_natCast]; exact hk')
    rw [hl] at hb
    simp only [Int.toNat_natCast] at hx hs hnx ⊢
    have hq : (k + modB b zs.length) % zs.length < zs.length := Nat.mod_lt _ (by omega)
    rw [i64w (n := (k : Int) + 1) (by omega) (by omega)]
    refine ⟨by omega, by omega, hb, x, hx, hs, ⟨by omega, by omega⟩, ho.room hq, ⟨k + 1, by omega, by omega, (ho.set hq (q_len5 x) (z := nth zs k) ⟨x, rfl, hnx⟩).congr fun p hp => ?_⟩, by omega⟩
    have hpe := preP_eq hm hp hk'
    by_cases c : p = (k + modB b zs.length) % zs.length
    · rw [if_pos c]
      have c2 := hpe.2 c
      show _ = if _ then some (nth zs (preP zs.length (modB b zs.length) p)) else none
      rw [c2, if_pos (by omega)]
    · rw [if_neg c]
      have c2 : preP zs.length (modB b zs.length) p ≠ k := fun e => c (hpe.1 e)
      by_cases c3 : preP zs.length (modB b zs.length) p < k
      · rw [if_pos c3, if_pos (by omega)]
      · rw [if_neg c3, if_neg (by omega)]
  · simp only [decide_eq_false_iff_not] at hge
    have hk' : k = zs.length := by omega
    subst hk'
    have ha := (ho.le (numC.le l3)).all (F := F) fun p hp => by rw [if_pos (preP_lt (modB_lt _ (by omega)) hp)]
    exact ⟨_, rfl, ListAt.of_made (zs := shiftF zs _) hb ha (by simp [shiftF])⟩

theorem Shift_long {V : View} {s : Sl} {zs : List Cq} {b : Int} (h : NumsAt V s zs) (hn : 64 < zs.length) :
    CallV Try.prog n_transform_Shift_num_Num_ #[s.v, .int .i64 b] V fun v V' => ∃ r : Sl, v = .tuple #[r.v, .int .i64 4] ∧ NumsAt V' r [] := by
  have hl := h.len
  refine transform_Shift_num_Num__vc s b V _ (fun _ _ _ => True) (fun _ _ _ => 0) ⟨fun _ => ⟨_, rfl, ListAt.nil⟩, fun h => ?_⟩
  rw [hl] at h; simp at h; omega

theorem pair_spec {V : View} (p q : Sl) : CallV Try.prog n_waveportref07_pair #[p.v, q.v] V fun v V' => v = .bool (decide (p.len = q.len ∧ p.len ≤ 64)) := by
  refine waveportref07_pair_vc p q V _ ⟨fun h => ?_, fun h => ?_⟩
  · have h : p.len = q.len := by have : (p.len : Int) = q.len := (by simpa using h); omega
    congr 1
    by_cases c : p.len ≤ 64
    · rw [decide_eq_true (show ((p.len : Int) ≤ 64) by omega), decide_eq_true ⟨h, c⟩]
    · rw [decide_eq_false (show ¬ ((p.len : Int) ≤ 64) by omega), decide_eq_false (fun x => c x.2)]
  · have h : ¬ p.len = q.len := by
      intro e; rw [e] at h; simp at h
    rw [decide_eq_false (fun x => h x.1)]

theorem Moved_spec {V : View} {k n : Nat} (b : Int) (hk : k < n) (hn : n ≤ 2 ^ 40) :
    CallV Try.prog n_waveportref07_Moved #[.int .i64 (k : Int), .int .i64 b, .int .i64 (n : Int)] V fun v V' => v = .int .i64 (((k + modB b n) % n : Nat) : Int) := by
  obtain ⟨h1, h2⟩ := moved_ref b hk hn
  refine waveportref07_Moved_vc _ b _ V _ ⟨by omega, fun h => ⟨by omega, ?_⟩, fun h => ⟨by omega, ?_⟩⟩
  · rw [h1 h]
  · rw [h2 h]

theorem refShift_spec {V : View} {s : Sl} {zs : List Cq} {b : Int} (h : QsAt V s zs) (hn : zs.length ≤ 64) :
    CallV Try.prog n_waveportref07_Shift #[s.v, .int .i64 b] V fun v V' => ∃ r : Sl, v = .tuple #[r.v, .int .i64 0] ∧ QsAt V' r (shiftF zs b) := by
  have hl := h.len
  let F : Nat → Cq := fun p => nth zs (preP zs.length (modB b zs.length) p)
  refine waveportref07_Shift_vc s b V _ (fun _ x V' => ∃ k : Nat, x.t7 = (k : Int) ∧ k ≤ zs.length ∧ OptIn qC V' x.o14 zs.length (fun p => if preP zs.length (modB b zs.length) p < k then some (F p) else none)) (fun _ x _ => (zs.length - x.t7).toNat)
    ((pair_spec s s).mono fun v V1 l1 hv => ⟨_, hv, fun h => ?_, fun _ => ?_⟩)
  · rw [hl, decide_eq_true ⟨rfl, hn⟩] at h; simp at h
  rw [hl]
  refine ⟨⟨by omega, by omega, by omega, by omega⟩, ⟨0, rfl, by omega, ?_⟩, ?_⟩
  · rw [Int.toNat_natCast]
    exact (OptIn.zeros qC V1 _).congr fun p _ => by simp
  rintro ⟨t, o⟩ V2 l2 ⟨k, rfl, hk, ho⟩
  dsimp only at ho ⊢
  refine ⟨fun hlt => ?_, fun hge b V3 l3 hb => ?_⟩
  · simp only [decide_eq_true_eq] at hlt
    have hk' : k < zs.length := by omega
    have hm := modB_lt b (n := zs.length) (by omega)
    obtain ⟨hb, x, hx, hs, hnx⟩ := (h.le (View.le_trans l1 l2)).get (t := (k : Int)) (by omega) (by rw [Int.toNat_natCast]; exact hk')
    rw [hl] at hb
    have hq : (k + modB b zs.length) % zs.length < zs.length := Nat.mod_lt _ (by omega)
    refine ⟨hb, x, hx, hs, (Moved_spec b hk' (by omega)).mono fun v V3 l3 hv => ⟨_, hv, ⟨by omega, by omega⟩, ?_⟩⟩
    simp only [Int.toNat_natCast] at hnx ⊢
    rw [i64w (n := (k : Int) + 1) (by omega) (by omega)]
    have ho3 := ho.le (qC.le l3)
    refine ⟨ho3.room hq, ⟨k + 1, by omega, by omega, (ho3.set hq (q_len5 x) (z := nth zs k) ⟨x, rfl, hnx.le l3⟩).congr fun p hp => ?_⟩, by omega⟩
    have hpe := preP_eq hm hp hk'
    by_cases c : p = (k + modB b zs.length) % zs.length
    · rw [if_pos c]
      have c2 := hpe.2 c
      show _ = if _ then some (nth zs (preP zs.length (modB b zs.length) p)) else none
      rw [c2, if_pos (by omega)]
    · rw [if_neg c]
      have c2 : preP zs.length (modB b zs.length) p ≠ k := fun e => c (hpe.1 e)
      by_cases c3 : preP zs.length (modB b zs.length) p < k
      · rw [if_pos c3, if_pos (by omega)]
      · rw [if_neg c3, if_neg (by omega)]
  · simp only [decide_eq_false_iff_not] at hge
    have hk' : k = zs.length := by omega
    subst hk'
    have ha := (ho.le (qC.le l3)).all (F := F) fun p hp => by rw [if_pos (preP_lt (modB_lt _ (by omega)) hp)]
    exact ⟨_, rfl, QsAt.of_made (zs := shiftF zs _) hb ha (by simp [shiftF])⟩

theorem refShift_long {V : View} {s : Sl} {zs : List Cq} {b : Int} (h : QsAt V s zs) (hn : 64 < zs.length) :
    CallV Try.prog n_waveportref07_Shift #[s.v, .int .i64 b] V fun v V' => ∃ r : Sl, v = .tuple #[r.v, .int .i64 4] ∧ QsAt V' r [] := by
  have hl := h.len
  refine waveportref07_Shift_vc s b V _ (fun _ _ _ => True) (fun _ _ _ => 0) ((pair_spec s s).mono fun v V1 l1 hv => ⟨_, hv, fun _ => ⟨_, rfl, ListAt.nil⟩, fun h => ?_⟩)
  rw [hl, decide_eq_false (fun x => by omega)] at h; simp at h

theorem Length_spec {V : View} (n : Int) : CallV Try.prog n_waveportref07_Length #[.int .i64 n] V fun v V' => v = .bool (lenB n.toNat) := by
  refine waveportref07_Length_vc n V _ (fun _ x _ => ∃ j : Nat, x.t3 = ((2 ^ j : Nat) : Int) ∧ j ≤ 7 ∧ ∀ i, i < j → n ≠ ((2 ^ i : Nat) : Int)) (fun _ x _ => (128 - x.t3).toNat) ⟨⟨0, rfl, by omega, fun i hi => by omega⟩, ?_⟩
  rintro ⟨t⟩ V1 l1 ⟨j, rfl, hj, hne⟩
  dsimp only
  have hp : 2 ^ j ≤ 2 ^ 7 := Nat.pow_le_pow_right (by omega) hj
  have hp1 : 1 ≤ 2 ^ j := Nat.pow_pos (by omega)
  refine ⟨fun hle => ⟨fun he => ?_, fun he => ?_⟩, fun hgt => ?_⟩
  · simp only [decide_eq_true_eq] at hle
    have he : n = ((2 ^ j : Nat) : Int) := by simpa using he
    rw [he, Int.toNat_natCast]
    have hj6 : j ≤ 6 := by
      rcases Nat.lt_or_ge j 7 with h | h
      · omega
      · have : j = 7 := by omega
        subst this
        exfalso; revert hle; decide
    rw [lenB_pow j (by simp; omega)]
  · have he : n ≠ ((2 ^ j : Nat) : Int) := by simpa using he
    have e2 : ((2 ^ j : Nat) : Int) * 2 = ((2 ^ (j + 1) : Nat) : Int) := by rw [Nat.pow_succ]; omega
    simp only [decide_eq_true_eq] at hle
    rw [e2, i64w (by omega) (by rw [Nat.pow_succ]; omega)]
    have hj6 : j ≤ 6 := by
      rcases Nat.lt_or_ge j 7 with h | h
      · omega
      · have : j = 7 := by omega
        subst this
        exfalso; revert hle; decide
    refine ⟨⟨j + 1, rfl, by omega, fun i hi => ?_⟩, by rw [Nat.pow_succ]; omega⟩
    rcases Nat.lt_or_ge i j with h | h
    · exact hne i h
    · have : i = j := by omega
      subst this; exact he
  · simp only [decide_eq_false_iff_not] at hgt
    have hj7 : j = 7 := by
      rcases Nat.lt_or_ge j 7 with h | h
      · have : 2 ^ j ≤ 2 ^ 6 := Nat.pow_le_pow_right (by omega) (by omega)
        omega
      · omega
    subst hj7
    have : lenB n.toNat = false := by
      cases hb : lenB n.toNat with
      | false => rfl
      | true =>
        exfalso
        obtain ⟨h1, h2⟩ := lenB_le hb
        have hmem : n.toNat ∈ [1, 2, 4, 8, 16, 32, 64] := by
          unfold lenB at hb; exact List.contains_iff_mem.1 hb
        have hn : n = (n.toNat : Int) := by omega
        simp only [List.mem_cons, List.not_mem_nil, or_false] at hmem
        rcases hmem with h | h | h | h | h | h | h
        · exact hne 0 (by omega) (by rw [hn, h])
        · exact hne 1 (by omega) (by rw [hn, h])
        · exact hne 2 (by omega) (by rw [hn, h])
        · exact hne 3 (by omega) (by rw [hn, h])
        · exact hne 4 (by omega) (by rw [hn, h])
        · exact hne 5 (by omega) (by rw [hn, h])
        · exact hne 6 (by omega) (by rw [hn, h])
    rw [this]

theorem Extend_spec {V : View} {s : Sl} {x : NumV} {zs : List Cq} {d : Cq} (h : NumsAt V s zs) (hx : NumAt V x d) (hb : lenB (2 * (zs.length + 1)) = true) :
    CallV Try.prog n_transform_Extend_num_Num_ #[s.v, x.val] V fun v V' => ∃ r : Sl, v = .tuple #[r.v, .int .i64 0] ∧ NumsAt V' r (extendF zs d) := by
  have hl := h.len
  have hb2 := lenB_le hb
  have w1 : IntKind.i64.wrap ((zs.length : Int) + 1) = ((zs.length + 1 : Nat) : Int) := by rw [i64w (by omega) (by omega)]; omega
  have w2 : IntKind.i64.wrap (2 * ((zs.length + 1 : Nat) : Int)) = ((2 * (zs.length + 1) : Nat) : Int) := by rw [i64w (by omega) (by omega)]; omega
  refine transform_Extend_num_Num__vc s x V _ (fun _ _ _ => True) (fun _ y V' => ∃ k : Nat, y.t8 = (k : Int) ∧ 1 ≤ k ∧ k ≤ zs.length + 1 ∧ OptIn numC V' y.o22 (2 * (zs.length + 1)) (extendI zs d k)) (fun _ y _ => (zs.length + 1 - y.t8).toNat) ?_
  rw [hl, w1, w2]
  simp only [Int.toNat_natCast]
  refine ⟨⟨fun h => absurd h (by simp; omega), fun _ => (transform_length_spec (by omega)).mono fun v V2 l2 hv => ⟨_, hv, fun h => ?_, fun _ => trivial⟩⟩, ?_⟩
  · rw [Int.toNat_natCast, hb] at h; simp at h
  intro _ V1 l1 _
  refine ⟨⟨by omega, by omega, by omega, by omega⟩, (of_spec (p := 0) (q := 1) (by decide) (by decide) (by decide) (by decide) (by decide)).mono fun v V3 l3 ⟨r2, hv, h2⟩ => ⟨r2, hv, ?_⟩⟩
  rw [zeroQ_eq] at h2
  have s0 := OptIn.zeros numC V3 (2 * (zs.length + 1))
  have s1 := s0.set (i := 0) (by omega) (q_len5 x) (z := d) ⟨x, rfl, hx.le (View.le_trans l1 l3)⟩
  have s2 := s1.set (i := zs.length + 1) (by omega) (q_len5 r2) (z := Cq.zero) ⟨r2, rfl, h2⟩
  refine ⟨⟨by omega, by simp; omega⟩, s0.room (i := 0) (by omega), ⟨by omega, by omega⟩, s1.room (i := zs.length + 1) (by omega), ⟨1, rfl, by omega, by omega, s2.congr fun p hp => ?_⟩, ?_⟩
  · unfold extendI
    by_cases c0 : p = zs.length + 1
    · rw [if_pos c0, if_neg (by omega), if_pos c0]
    · rw [if_neg c0]
      by_cases c1 : p = 0
      · rw [if_pos c1, if_pos c1]
      · rw [if_neg c1, if_neg c1, if_neg c0]
        by_cases c2 : p < zs.length + 1
        · rw [if_pos c2, if_neg (by omega)]
        · rw [if_neg c2, if_neg (by omega)]
  rintro ⟨t, o⟩ V4 l4 ⟨k, rfl, hk1, hk, ho⟩
  dsimp only at ho ⊢
  refine ⟨fun hlt => ?_, fun hge b V6 l6 hb6 => ?_⟩
  · simp only [decide_eq_true_eq] at hlt
    have w3 : IntKind.i64.wrap ((k : Int) - 1) = ((k - 1 : Nat) : Int) := by rw [i64w (by omega) (by omega)]; omega
    have w4 : IntKind.i64.wrap (((2 * (zs.length + 1) : Nat) : Int) - (k : Int)) = ((2 * (zs.length + 1) - k : Nat) : Int) := by rw [i64w (by omega) (by omega)]; omega
    have w5 : IntKind.i64.wrap ((k : Int) + 1) = ((k + 1 : Nat) : Int) := by rw [i64w (by omega) (by omega)]; omega
    rw [w3, w4, w5]
    obtain ⟨hb6, x6, hx6, hs6, hn6⟩ := (h.le (View.le_trans l1 (View.le_trans l3 l4))).get (t := ((k - 1 : Nat) : Int)) (by omega) (by rw [Int.toNat_natCast]; omega)
    rw [hl] at hb6
    rw [Int.toNat_natCast] at hn6
    refine ⟨hb6, x6, hx6, hs6, hb6, x6, hx6, hs6, (Num_Conj_spec hn6).mono fun v V5 l5 ⟨r3, hv, h3⟩ => ⟨r3, hv, ?_⟩⟩
    simp only [Int.toNat_natCast]
    have o5 := ho.le (numC.le l5)
    have t1 := o5.set (i := k) (by omega) (q_len5 x6) (z := nth zs (k - 1)) ⟨x6, rfl, hn6.le l5⟩
    have t2 := t1.set (i := 2 * (zs.length + 1) - k) (by omega) (q_len5 r3) (z := (nth zs (k - 1)).conj) ⟨r3, rfl, h3⟩
    exact ⟨⟨by omega, by omega⟩, o5.room (i := k) (by omega), ⟨by omega, by omega⟩, t1.room (by omega), ⟨k + 1, rfl, by omega, by omega, t2.congr fun p hp => extendI_step hk1 (by omega) hp⟩, by omega⟩
  · simp only [decide_eq_false_iff_not] at hge
    have hk' : k = zs.length + 1 := by omega
    subst hk'
    have ha := (ho.le (numC.le l6)).all (F := extendP zs d) fun p hp => extendI_all hp
    exact ⟨_, rfl, ListAt.of_made (zs := extendF zs d) hb6 ha (by simp [extendF])⟩

theorem Extend_long {V : View} {s : Sl} {x : NumV} {zs : List Cq} (h : NumsAt V s zs) (hn : zs.length ≤ 2 ^ 32) (hb : lenB (2 * (zs.length + 1)) = false) :
    CallV Try.prog n_transform_Extend_num_Num_ #[s.v, x.val] V fun v V' => ∃ r : Sl, v = .tuple #[r.v, .int .i64 4] ∧ NumsAt V' r [] := by
  have hl := h.len
  have w1 : IntKind.i64.wrap ((zs.length : Int) + 1) = ((zs.length + 1 : Nat) : Int) := by rw [i64w (by omega) (by omega)]; omega
  have w2 : IntKind.i64.wrap (2 * ((zs.length + 1 : Nat) : Int)) = ((2 * (zs.length + 1) : Nat) : Int) := by rw [i64w (by omega) (by omega)]; omega
  refine transform_Extend_num_Num__vc s x V _ (fun _ _ _ => False) (fun _ _ _ => False) (fun _ _ _ => 0) ?_
  rw [hl, w1, w2]
  refine ⟨⟨fun _ => ⟨fun _ => ⟨_, rfl, ListAt.nil⟩, fun h => absurd h (by simp)⟩, fun _ => (transform_length_spec (by omega)).mono fun v V2 l2 hv => ⟨_, hv, fun _ => ⟨_, rfl, ListAt.nil⟩, fun h => ?_⟩⟩, ?_⟩
  · rw [Int.toNat_natCast, hb] at h; simp at h
  · intro _ _ _ h; exact h.elim

theorem refExtend_spec {V : View} {s : Sl} {x : NumV} {zs : List Cq} {d : Cq} (h : QsAt V s zs) (hx : QAt V x d) (hb : lenB (2 * (zs.length + 1)) = true) :
    CallV Try.prog n_waveportref07_Extend #[s.v, x.val] V fun v V' => ∃ r : Sl, v = .tuple #[r.v, .int .i64 0] ∧ QsAt V' r (extendF zs d) := by
  have hl := h.len
  have hb2 := lenB_le hb
  have w1 : IntKind.i64.wrap ((zs.length : Int) + 1) = ((zs.length + 1 : Nat) : Int) := by rw [i64w (by omega) (by omega)]; omega
  have w2 : IntKind.i64.wrap (2 * ((zs.length + 1 : Nat) : Int)) = ((2 * (zs.length + 1) : Nat) : Int) := by rw [i64w (by omega) (by omega)]; omega
  refine waveportref07_Extend_vc s x V _ (fun _ y V' => ∃ k : Nat, y.t8 = (k : Int) ∧ 1 ≤ k ∧ k ≤ zs.length + 1 ∧ OptIn qC V' y.o18 (2 * (zs.length + 1)) (extendI zs d k)) (fun _ y _ => (zs.length + 1 - y.t8).toNat) ?_
  rw [hl, w1, w2]
  simp only [Int.toNat_natCast]
  refine (Length_spec _).mono fun v V1 l1 hv => ⟨_, hv, fun h => ?_, fun _ => ?_⟩
  · rw [Int.toNat_natCast, hb] at h; simp at h
  have s0 := OptIn.zeros qC V1 (2 * (zs.length + 1))
  refine ⟨⟨by omega, by omega, by omega, by omega⟩, ⟨by omega, by simp; omega⟩, s0.room (i := 0) (by omega), (ref1_Whole_spec (n := 0) (by omega) (by omega)).mono fun v V3 l3 ⟨r2, hv, h2⟩ => ⟨r2, hv, ?_⟩⟩
  have ez : (⟨((0 : Int) : Rat), 0⟩ : Cq) = Cq.zero := Cq.ext' (by simp [Cq.zero]) rfl
  rw [ez] at h2
  have s0 := OptIn.zeros qC V3 (2 * (zs.length + 1))
  have s1 := s0.set (i := 0) (by omega) (q_len5 x) (z := d) ⟨x, rfl, hx.le (View.le_trans l1 l3)⟩
  have s2 := s1.set (i := zs.length + 1) (by omega) (q_len5 r2) (z := Cq.zero) ⟨r2, rfl, h2⟩
  refine ⟨⟨by omega, by omega⟩, s1.room (i := zs.length + 1) (by omega), ⟨1, rfl, by omega, by omega, s2.congr fun p hp => ?_⟩, ?_⟩
  · unfold extendI
    by_cases c0 : p = zs.length + 1
    · rw [if_pos c0, if_neg (by omega), if_pos c0]
    · rw [if_neg c0]
      by_cases c1 : p = 0
      · rw [if_pos c1, if_pos c1]
      · rw [if_neg c1, if_neg c1, if_neg c0]
        by_cases c2 : p < zs.length + 1
        · rw [if_pos c2, if_neg (by omega)]
        · rw [if_neg c2, if_neg (by omega)]
  rintro ⟨t, o⟩ V4 l4 ⟨k, rfl, hk1, hk, ho⟩
  dsimp only at ho ⊢
  refine ⟨fun hlt => ?_, fun hge b V6 l6 hb6 => ?_⟩
  · simp only [decide_eq_true_eq] at hlt
    have w3 : IntKind.i64.wrap ((k : Int) - 1) = ((k - 1 : Nat) : Int) := by rw [i64w (by omega) (by omega)]; omega
    have w4 : IntKind.i64.wrap (((2 * (zs.length + 1) : Nat) : Int) - (k : Int)) = ((2 * (zs.length + 1) - k : Nat) : Int) := by rw [i64w (by omega) (by omega)]; omega
    have w5 : IntKind.i64.wrap ((k : Int) + 1) = ((k + 1 : Nat) : Int) := by rw [i64w (by omega) (by omega)]; omega
    rw [w3, w4, w5]
    obtain ⟨hb6, x6, hx6, hs6, hn6⟩ := (h.le (View.le_trans l1 (View.le_trans l3 l4))).get (t := ((k - 1 : Nat) : Int)) (by omega) (by rw [Int.toNat_natCast]; omega)
    rw [hl] at hb6
    rw [Int.toNat_natCast] at hn6
    simp only [Int.toNat_natCast]
    rw [Int.toNat_natCast] at hx6 hs6
    refine ⟨hb6, x6, hx6, hs6, ⟨by omega, by omega⟩, ho.room (i := k) (by omega), hb6, x6, hx6, hs6, (ref1_Conj_spec hn6).mono fun v V5 l5 ⟨r3, hv, h3⟩ => ⟨r3, hv, ?_⟩⟩
    have o5 := ho.le (qC.le l5)
    have t1 := o5.set (i := k) (by omega) (q_len5 x6) (z := nth zs (k - 1)) ⟨x6, rfl, hn6.le l5⟩
    have t2 := t1.set (i := 2 * (zs.length + 1) - k) (by omega) (q_len5 r3) (z := (nth zs (k - 1)).conj) ⟨r3, rfl, h3⟩
    exact ⟨⟨by omega, by omega⟩, t1.room (by omega), ⟨k + 1, rfl, by omega, by omega, t2.congr fun p hp => extendI_step hk1 (by omega) hp⟩, by omega⟩
  · simp only [decide_eq_false_iff_not] at hge
    have hk' : k = zs.length + 1 := by omega
    subst hk'
    have ha := (ho.le (qC.le l6)).all (F := extendP zs d) fun p hp => extendI_all hp
    exact ⟨_, rfl, QsAt.of_made (zs := extendF zs d) hb6 ha (by simp [extendF])⟩

theorem refExtend_long {V : View} {s : Sl} {x : NumV} {zs : List Cq} (h : QsAt V s zs) (hn : zs.length ≤ 2 ^ 32) (hb : lenB (2 * (zs.length + 1)) = false) :
    CallV Try.prog n_waveportref07_Extend #[s.v, x.val] V fun v V' => ∃ r : Sl, v = .tuple #[r.v, .int .i64 4] ∧ QsAt V' r [] := by
  have hl := h.len
  have w1 : IntKind.i64.wrap ((zs.length : Int) + 1) = ((zs.length + 1 : Nat) : Int) := by rw [i64w (by omega) (by omega)]; omega
  have w2 : IntKind.i64.wrap (2 * ((zs.length + 1 : Nat) : Int)) = ((2 * (zs.length + 1) : Nat) : Int) := by rw [i64w (by omega) (by omega)]; omega
  refine waveportref07_Extend_vc s x V _ (fun _ _ _ => True) (fun _ _ _ => 0) ?_
  rw [hl, w1, w2]
  refine (Length_spec _).mono fun v V1 l1 hv => ⟨_, hv, fun _ => ⟨_, rfl, ListAt.nil⟩, fun h => ?_⟩
  rw [Int.toNat_natCast, hb] at h; simp at h

theorem half_eq : (⟨((1 : Int) : Rat) / ((2 : Int) : Rat), ((0 : Int) : Rat) / ((2 : Int) : Rat)⟩ : Cq) = ⟨1 / 2, 0⟩ := Cq.ext' (by simp) (by simp [Rat.div_def])
theorem half_sz : (⟨1 / 2, 0⟩ : Cq).sz ≤ 4 := by decide +kernel
theorem zeroEst_sz {zs : List Cq} {S : Nat} (h0 : (nth zs 0).sz ≤ S) (h1 : (nth zs 1).sz ≤ S) : (zeroEst zs).sz ≤ 6 * S + 20 := by
  unfold zeroEst
  have a1 := Cq.sz_sub (nth zs 0) (nth zs 1)
  have a2 := Cq.sz_add (nth zs 0) (nth zs 0 - nth zs 1)
  have a3 := Cq.sz_conj (nth zs 0 + (nth zs 0 - nth zs 1))
  have a4 := Cq.sz_add (nth zs 0 + (nth zs 0 - nth zs 1)) (nth zs 0 + (nth zs 0 - nth zs 1)).conj
  have a5 := Cq.sz_mul (nth zs 0 + (nth zs 0 - nth zs 1) + (nth zs 0 + (nth zs 0 - nth zs 1)).conj) ⟨1 / 2, 0⟩
  have a6 := half_sz
  simp only []
  omega

theorem Zero_spec {V : View} {s : Sl} {zs : List Cq} {S : Nat} (h : NumsAt V s zs) (h2 : 2 ≤ zs.length) (hn : zs.length ≤ 64) (s0 : (nth zs 0).sz ≤ S) (s1 : (nth zs 1).sz ≤ S) (hS : S ≤ 2 ^ 30) :
    CallV Try.prog n_transform_Zero_num_Num_ #[s.v] V fun v V' => ∃ r : NumV, v = .tuple #[r.val, .int .i64 0] ∧ NumAt V' r (zeroEst zs) := by
  have hl := h.len
  have a1 := Cq.sz_sub (nth zs 0) (nth zs 1)
  have a2 := Cq.sz_add (nth zs 0) (nth zs 0 - nth zs 1)
  have a3 := Cq.sz_conj (nth zs 0 + (nth zs 0 - nth zs 1))
  have a4 := Cq.sz_add (nth zs 0 + (nth zs 0 - nth zs 1)) (nth zs 0 + (nth zs 0 - nth zs 1)).conj
  have a6 := half_sz
  obtain ⟨hb0, x0, hx0, hs0, hn0⟩ := h.get (t := 0) (by omega) (by show 0 < _; omega)
  obtain ⟨hb1, x1, hx1, hs1, hn1⟩ := h.get (t := 1) (by omega) (by show 1 < _; omega)
  refine transform_Zero_num_Num__vc s V _ ⟨fun h => ?_, fun _ => ⟨fun h => ?_, fun _ => ⟨hb0, x0, hx0, hs0, hb0, x0, hx0, hs0, hb1, x1, hx1, hs1, ?_⟩⟩⟩
  · rw [hl] at h; simp at h; omega
  · rw [hl] at h; simp at h; omega
  have hn0 : NumAt V x0 (nth zs 0) := hn0
  have hn1 : NumAt V x1 (nth zs 1) := hn1
  refine (Num_Sub_spec hn0 hn1 (by omega) (by omega)).mono fun v V1 l1 ⟨r1, hv, g1⟩ => ⟨r1, hv, ?_⟩
  refine (Num_Add_spec (hn0.le l1) g1 (by omega) (by omega)).mono fun v V2 l2 ⟨r2, hv, g2⟩ => ⟨r2, hv, ?_⟩
  refine (Num_Conj_spec g2).mono fun v V3 l3 ⟨r3, hv, g3⟩ => ⟨r3, hv, ?_⟩
  refine (Num_Add_spec (g2.le l3) g3 (by omega) (by omega)).mono fun v V4 l4 ⟨r4, hv, g4⟩ => ⟨r4, hv, ?_⟩
  refine (of_spec (p := 1) (q := 2) (by decide) (by decide) (by decide) (by decide) (by decide)).mono fun v V5 l5 ⟨r5, hv, g5⟩ => ⟨r5, hv, ?_⟩
  rw [half_eq] at g5
  exact (Num_Mul_spec (g4.le l5) g5 (by omega) (by omega)).mono fun v V6 l6 ⟨r6, hv, g6⟩ => ⟨r6, hv, r6, rfl, g6⟩

theorem Zero_bad {V : View} {s : Sl} {zs : List Cq} (h : NumsAt V s zs) (hb : zs.length < 2 ∨ 64 < zs.length) :
    CallV Try.prog n_transform_Zero_num_Num_ #[s.v] V fun v V' => ∃ r : NumV, v = .tuple #[r.val, .int .i64 4] ∧ NumAt V' r Cq.zero := by
  have hl := h.len
  refine transform_Zero_num_Num__vc s V _ ⟨fun _ => ⟨fun _ => ⟨_, rfl, NumAt.zero V⟩, fun h => absurd h (by simp)⟩, fun h1 => ⟨fun _ => ⟨_, rfl, NumAt.zero V⟩, fun h2 => ?_⟩⟩
  rw [hl] at h1 h2; simp at h1 h2; omega

theorem refZero_spec {V : View} {s : Sl} {zs : List Cq} {S : Nat} (h : QsAt V s zs) (h2 : 2 ≤ zs.length) (hn : zs.length ≤ 64) (s0 : (nth zs 0).sz ≤ S) (s1 : (nth zs 1).sz ≤ S) (hS : S ≤ 2 ^ 30) :
    CallV Try.prog n_waveportref07_Zero #[s.v] V fun v V' => ∃ r : NumV, v = .tuple #[r.val, .int .i64 0] ∧ QAt V' r (zeroEst zs) := by
  have hl := h.len
  have a1 := Cq.sz_sub (nth zs 0) (nth zs 1)
  have a2 := Cq.sz_add (nth zs 0) (nth zs 0 - nth zs 1)
  have a3 := Cq.sz_conj (nth zs 0 + (nth zs 0 - nth zs 1))
  have a4 := Cq.sz_add (nth zs 0 + (nth zs 0 - nth zs 1)) (nth zs 0 + (nth zs 0 - nth zs 1)).conj
  have a6 := half_sz
  refine waveportref07_Zero_vc s V _ ⟨fun h => ?_, fun _ => ⟨fun h => ?_, fun _ => ?_⟩⟩
  · rw [hl] at h; simp at h; omega
  · rw [hl] at h; simp at h; omega
  refine (ref1_New_spec (by omega) (by omega) (by omega) (by omega) (by omega) (by omega) (by omega)).mono fun v V0 l0 ⟨r0, hv, g0⟩ => ⟨r0, 0, hv, ?_⟩
  rw [half_eq] at g0
  obtain ⟨hb0, x0, hx0, hs0, hn0⟩ := (h.le l0).get (t := 0) (by omega) (by show 0 < _; omega)
  obtain ⟨hb1, x1, hx1, hs1, hn1⟩ := (h.le l0).get (t := 1) (by omega) (by show 1 < _; omega)
  refine ⟨hb0, x0, hx0, hs0, hb0, x0, hx0, hs0, hb1, x1, hx1, hs1, ?_⟩
  have hn0 : QAt V0 x0 (nth zs 0) := hn0
  have hn1 : QAt V0 x1 (nth zs 1) := hn1
  refine (ref1_Sub_spec hn0 hn1 (by omega) (by omega)).mono fun v V1 l1 ⟨r1, hv, g1⟩ => ⟨r1, hv, ?_⟩
  refine (ref1_Add_spec (hn0.le l1) g1 (by omega) (by omega)).mono fun v V2 l2 ⟨r2, hv, g2⟩ => ⟨r2, hv, ?_⟩
  refine (ref1_Conj_spec g2).mono fun v V3 l3 ⟨r3, hv, g3⟩ => ⟨r3, hv, ?_⟩
  refine (ref1_Add_spec (g2.le l3) g3 (by omega) (by omega)).mono fun v V4 l4 ⟨r4, hv, g4⟩ => ⟨r4, hv, ?_⟩
  exact (ref1_Mul_spec g4 (g0.le (View.le_trans l1 (View.le_trans l2 (View.le_trans l3 l4)))) (by omega) (by omega)).mono fun v V6 l6 ⟨r6, hv, g6⟩ => ⟨r6, hv, r6, rfl, g6⟩

theorem refZero_bad {V : View} {s : Sl} {zs : List Cq} (h : QsAt V s zs) (hb : zs.length < 2 ∨ 64 < zs.length) :
    CallV Try.prog n_waveportref07_Zero #[s.v] V fun v V' => ∃ r : NumV, v = .tuple #[r.val, .int .i64 4] ∧ QAt V' r Cq.zero := by
  have hl := h.len
  have ez : (⟨((0 : Int) : Rat), 0⟩ : Cq) = Cq.zero := Cq.ext' (by simp [Cq.zero]) rfl
  have w : ∀ {V : View}, CallV Try.prog n_ref1_Whole #[.int .i64 0] V fun v V1 => ∃ r1 : NumV, v = r1.val ∧ ∃ r : NumV, Value.tuple #[r1.val, .int .i64 4] = .tuple #[r.val, .int .i64 4] ∧ QAt V1 r Cq.zero :=
    (ref1_Whole_spec (n := 0) (by omega) (by omega)).mono fun v V1 _ ⟨r, hv, hr⟩ => ⟨r, hv, r, rfl, by rw [← ez]; exact hr⟩
  refine waveportref07_Zero_vc s V _ ⟨fun _ => ⟨fun _ => w, fun h => absurd h (by simp)⟩, fun h1 => ⟨fun _ => w, fun h2 => ?_⟩⟩
  rw [hl] at h1 h2; simp at h1 h2; omega

/-- The call of TransformShifts returns true. -/
theorem TransformShifts_spec {V : View} {s : Sl} {rs : List RatV} {p b : Int} {d : RatV} (h : RatsAt V s rs) (hr : rs.length < 2 ^ 64) (p0 : 0 ≤ p) (p1 : p ≤ 255) (hd : ratI d) :
    CallV Try.prog n_waveportlaw07_TransformShifts #[s.v, .int .u8 p, .int .i64 b, d.val] V fun v V' => v = .bool true := by
  refine waveportlaw07_TransformShifts_vc s p b d V _ ⟨fun _ => awake_spec.mono fun v V1 _ hv => ⟨_, hv, rfl⟩, fun _ => ?_⟩
  obtain ⟨n, hn, hn70⟩ : ∃ n : Nat, Int.tmod (IntKind.i64.wrap p) 71 = (n : Int) ∧ n ≤ 70 := by
    rw [i64w (by omega) (by omega), Int.tmod_eq_emod_of_nonneg p0]
    exact ⟨(p % 71).toNat, by omega, by omega⟩
  rw [hn]
  refine (repeated_spec h hr (by omega)).mono fun v V1 l1 ⟨a, hv, ha⟩ => ⟨a, hv, ?_⟩
  have hal : (repeatedR rs n).length = n := by simp [repeatedR]
  have hok : ∀ r ∈ repeatedR rs n, ratI r := fun r hr => (repeatedR_tame rs _ r hr).ok
  have hzl := exactQ_length rs n
  have hzs := exactQ_sz rs n
  have hN : ∀ {V : View}, RatsAt V a (repeatedR rs n) → CallV Try.prog n_law1_List #[a.v] V fun v V' => ∃ r : Sl, v = r.v ∧ NumsAt V' r (exactQ rs n) := fun h => law1_List_spec h hok (by omega)
  have hQ : ∀ {V : View}, RatsAt V a (repeatedR rs n) → CallV Try.prog n_waveportlaw07_refList #[a.v] V fun v V' => ∃ r : Sl, v = r.v ∧ QsAt V' r (exactQ rs n) := fun h => refList_spec h hok (by omega)
  generalize exactQ rs n = zs at hzl hzs hN hQ
  have hdz := ratQ_sz hd
  refine (hN ha).mono fun v V2 l2 ⟨x, hv, hx⟩ => ⟨x, hv, ?_⟩
  have S1 : CallV Try.prog n_transform_Shift_num_Num_ #[x.v, .int .i64 b] V2 fun v V' => ∃ (r : Sl) (e : Int), v = .tuple #[r.v, .int .i64 e] ∧ e = (if n ≤ 64 then 0 else 4) ∧ NumsAt V' r (if n ≤ 64 then shiftF zs b else []) := by
    by_cases c : n ≤ 64
    · simp only [if_pos c]
      exact (Shift_spec hx (by omega)).mono fun v V' _ ⟨r, hv, hr⟩ => ⟨r, 0, hv, rfl, hr⟩
    · simp only [if_neg c]
      exact (Shift_long hx (by omega)).mono fun v V' _ ⟨r, hv, hr⟩ => ⟨r, 4, hv, rfl, hr⟩
  refine S1.mono fun v V3 l3 ⟨r4, e5, hv, he5, h4⟩ => ⟨r4, e5, hv, ?_⟩
  refine (hQ (ha.le (View.le_trans l2 l3))).mono fun v V4 l4 ⟨r6, hv, h6⟩ => ⟨r6, hv, ?_⟩
  have S2 : CallV Try.prog n_waveportref07_Shift #[r6.v, .int .i64 b] V4 fun v V' => ∃ (r : Sl) (e : Int), v = .tuple #[r.v, .int .i64 e] ∧ e = (if n ≤ 64 then 0 else 4) ∧ QsAt V' r (if n ≤ 64 then shiftF zs b else []) := by
    by_cases c : n ≤ 64
    · simp only [if_pos c]
      exact (refShift_spec h6 (by omega)).mono fun v V' _ ⟨r, hv, hr⟩ => ⟨r, 0, hv, rfl, hr⟩
    · simp only [if_neg c]
      exact (refShift_long h6 (by omega)).mono fun v V' _ ⟨r, hv, hr⟩ => ⟨r, 4, hv, rfl, hr⟩
  refine S2.mono fun v V5 l5 ⟨r7, e8, hv, he8, h7⟩ => ⟨r7, e8, hv, ?_⟩
  have hee : e8 = e5 := by rw [he8, he5]
  subst hee
  have sh1 : (if n ≤ 64 then shiftF zs b else []).length ≤ 2 ^ 40 := by
    split
    · rw [shiftF_length]; omega
    · simp
  have sh2 : ∀ i, i < (if n ≤ 64 then shiftF zs b else []).length → (nth (if n ≤ 64 then shiftF zs b else []) i).sz ≤ 2 ^ 40 := by
    intro i hi
    split at hi
    · rename_i c
      rw [if_pos c]
      rw [shiftF_length] at hi
      rw [shiftF_nth hi]
      have := hzs (preP zs.length (modB b zs.length) i) (by have := preP_lt (modB_lt b (n := zs.length) (by omega)) hi; omega)
      omega
    · simp at hi
  refine (answers_spec (h4.le (View.le_trans l4 l5)) h7 sh1 sh2).mono fun v V6 l6 hv => ⟨_, hv, fun h => absurd h (by simp), fun _ => ?_⟩
  have L6 : View.le V1 V6 := View.le_trans l2 (View.le_trans l3 (View.le_trans l4 (View.le_trans l5 l6)))
  refine (hN (ha.le L6)).mono fun v V7 l7 ⟨r10, hv, h10⟩ => ⟨r10, hv, ?_⟩
  refine (law1_Of_spec hd).mono fun v V8 l8 ⟨r11, hv, h11⟩ => ⟨r11, hv, ?_⟩
  have S3 : CallV Try.prog n_transform_Extend_num_Num_ #[r10.v, r11.val] V8 fun v V' => ∃ (r : Sl) (e : Int), v = .tuple #[r.v, .int .i64 e] ∧ e = (if lenB (2 * (n + 1)) = true then 0 else 4) ∧ NumsAt V' r (if lenB (2 * (n + 1)) = true then extendF zs (ratQ d) else []) := by
    by_cases c : lenB (2 * (n + 1)) = true
    · simp only [if_pos c]
      exact (Extend_spec (h10.le l8) h11 (by rw [hzl]; exact c)).mono fun v V' _ ⟨r, hv, hr⟩ => ⟨r, 0, hv, rfl, hr⟩
    · simp only [if_neg c]
      exact (Extend_long (h10.le l8) (by omega) (by rw [hzl]; simpa using c)).mono fun v V' _ ⟨r, hv, hr⟩ => ⟨r, 4, hv, rfl, hr⟩
  refine S3.mono fun v V9 l9 ⟨r12, e13, hv, he13, h12⟩ => ⟨r12, e13, hv, ?_⟩
  have L9 : View.le V1 V9 := View.le_trans L6 (View.le_trans l7 (View.le_trans l8 l9))
  refine (hQ (ha.le L9)).mono fun v V10 l10 ⟨r14, hv, h14⟩ => ⟨r14, hv, ?_⟩
  refine (ref1_Of_spec hd).mono fun v V11 l11 ⟨r15, hv, h15⟩ => ⟨r15, hv, ?_⟩
  have S4 : CallV Try.prog n_waveportref07_Extend #[r14.v, r15.val] V11 fun v V' => ∃ (r : Sl) (e : Int), v = .tuple #[r.v, .int .i64 e] ∧ e = (if lenB (2 * (n + 1)) = true then 0 else 4) ∧ QsAt V' r (if lenB (2 * (n + 1)) = true then extendF zs (ratQ d) else []) := by
    by_cases c : lenB (2 * (n + 1)) = true
    · simp only [if_pos c]
      exact (refExtend_spec (h14.le l11) h15 (by rw [hzl]; exact c)).mono fun v V' _ ⟨r, hv, hr⟩ => ⟨r, 0, hv, rfl, hr⟩
    · simp only [if_neg c]
      exact (refExtend_long (h14.le l11) (by omega) (by rw [hzl]; simpa using c)).mono fun v V' _ ⟨r, hv, hr⟩ => ⟨r, 4, hv, rfl, hr⟩
  refine S4.mono fun v V12 l12 ⟨r16, e17, hv, he17, h16⟩ => ⟨r16, e17, hv, ?_⟩
  have hee2 : e17 = e13 := by rw [he17, he13]
  subst hee2
  have L12 : View.le V9 V12 := View.le_trans l10 (View.le_trans l11 l12)
  refine (hN (ha.le (View.le_trans L9 L12))).mono fun v V13 l13 ⟨r18, hv, h18⟩ => ⟨r18, hv, ?_⟩
  have S5 : CallV Try.prog n_transform_Zero_num_Num_ #[r18.v] V13 fun v V' => ∃ (r : NumV) (e : Int), v = .tuple #[r.val, .int .i64 e] ∧ e = (if 2 ≤ n ∧ n ≤ 64 then 0 else 4) ∧ NumAt V' r (if 2 ≤ n ∧ n ≤ 64 then zeroEst zs else Cq.zero) := by
    by_cases c : 2 ≤ n ∧ n ≤ 64
    · simp only [if_pos c]
      exact (Zero_spec (S := 5) h18 (by omega) (by omega) (hzs 0 (by omega)) (hzs 1 (by omega)) (by omega)).mono fun v V' _ ⟨r, hv, hr⟩ => ⟨r, 0, hv, rfl, hr⟩
    · simp only [if_neg c]
      exact (Zero_bad h18 (by omega)).mono fun v V' _ ⟨r, hv, hr⟩ => ⟨r, 4, hv, rfl, hr⟩
  refine S5.mono fun v V14 l14 ⟨r19, e20, hv, he20, h19⟩ => ⟨r19, e20, hv, ?_⟩
  refine (hQ (ha.le (View.le_trans L9 (View.le_trans L12 (View.le_trans l13 l14))))).mono fun v V15 l15 ⟨r21, hv, h21⟩ => ⟨r21, hv, ?_⟩
  have S6 : CallV Try.prog n_waveportref07_Zero #[r21.v] V15 fun v V' => ∃ (r : NumV) (e : Int), v = .tuple #[r.val, .int .i64 e] ∧ e = (if 2 ≤ n ∧ n ≤ 64 then 0 else 4) ∧ QAt V' r (if 2 ≤ n ∧ n ≤ 64 then zeroEst zs else Cq.zero) := by
    by_cases c : 2 ≤ n ∧ n ≤ 64
    · simp only [if_pos c]
      exact (refZero_spec (S := 5) h21 (by omega) (by omega) (hzs 0 (by omega)) (hzs 1 (by omega)) (by omega)).mono fun v V' _ ⟨r, hv, hr⟩ => ⟨r, 0, hv, rfl, hr⟩
    · simp only [if_neg c]
      exact (refZero_bad h21 (by omega)).mono fun v V' _ ⟨r, hv, hr⟩ => ⟨r, 4, hv, rfl, hr⟩
  refine S6.mono fun v V16 l16 ⟨r22, e23, hv, he23, h22⟩ => ⟨r22, e23, hv, ?_⟩
  have hee3 : e23 = e20 := by rw [he23, he20]
  subst hee3
  have x1 : (if lenB (2 * (n + 1)) = true then extendF zs (ratQ d) else []).length ≤ 2 ^ 40 := by
    split
    · simp [extendF]; omega
    · simp
  have x2 : ∀ i, i < (if lenB (2 * (n + 1)) = true then extendF zs (ratQ d) else []).length → (nth (if lenB (2 * (n + 1)) = true then extendF zs (ratQ d) else []) i).sz ≤ 2 ^ 40 := by
    intro i hi
    split at hi
    · rename_i c
      rw [if_pos c]
      have hi : i < 2 * (zs.length + 1) := by simpa [extendF] using hi
      have e : nth (extendF zs (ratQ d)) i = extendP zs (ratQ d) i := nth_map hi _
      rw [e]
      unfold extendP
      split
      · omega
      · split
        · have := Cq.sz_zero; omega
        · split
          · have := hzs (i - 1) (by omega); omega
          · rw [Cq.sz_conj]
            have := hzs (2 * (zs.length + 1) - i - 1) (by omega); omega
    · simp at hi
  have L16 : View.le V9 V16 := View.le_trans L12 (View.le_trans l13 (View.le_trans l14 (View.le_trans l15 l16)))
  refine (answers_spec (h12.le L16) (h16.le (View.le_trans l13 (View.le_trans l14 (View.le_trans l15 l16)))) x1 x2).mono fun v V17 l17 hv => ⟨_, hv, fun _ => ⟨fun _ => ?_, fun h => absurd h (by simp)⟩, fun h => absurd h (by simp)⟩
  have z1 : (if 2 ≤ n ∧ n ≤ 64 then zeroEst zs else Cq.zero).sz ≤ 2 ^ 40 := by
    split
    · have := zeroEst_sz (hzs 0 (by omega)) (hzs 1 (by omega)); omega
    · have := Cq.sz_zero; omega
  refine (law1_Is_spec (h19.le (View.le_trans l15 (View.le_trans l16 l17))) (h22.le l17) z1).mono fun v V18 l18 hv => ⟨_, hv, fun _ => ?_, fun h => absurd h (by simp)⟩
  exact awake_spec.mono fun v V11 _ hv => ⟨_, hv, rfl⟩
end Go.Proofs.Ytcapadojlaojkaa
