/- Part of the proof; it has the parts CSc3 CSl1 CSl2 COpen7 CSl5. -/
import Derived.Test.YtefkpimcffofaaaPartD
namespace Go.Proofs.Ytefkpimcffofaaa
open Go Go.Vc Go.Proofs
theorem part_spec {V : View} {a b c : NumV} {x y z : Cq} {S : Nat} (ha : NumAt V a x) (hb : NumAt V b y) (hc : NumAt V c z) (sx : x.sz ≤ S) (sy : y.sz ≤ S) (sz : z.sz ≤ S) (hS : S ≤ 2 ^ 30) :
 CallV Try.prog n_scan_part #[a.val, b.val, c.val] V fun v V' => ∃ r : NumV, v = r.val ∧ NumAt V' r (partQ2 x y z) := by
 have s1 := Cq.sz_sub x y; have s2 := Cq.sz_sub z y
 refine scan_part_vc a b c V _ ((Num_Sub_spec ha hb (by omega) (by omega)).mono fun v V1 l1 ⟨r1, hv, h1⟩ => ⟨r1, hv, ?_⟩)
 refine (Num_Sub_spec (hc.le l1) (hb.le l1) (by omega) (by omega)).mono fun v V2 l2 ⟨r2, hv, h2⟩ => ⟨r2, hv, ?_⟩
 refine (Num_Div_spec (h1.le l2) h2 (by omega) (by omega)).mono fun v V3 l3 ⟨r3, e, hv, hz, hn⟩ => ⟨r3, e, hv, r3, rfl, ?_⟩
 by_cases g : z - y = Cq.zero
 · have e1 : partQ2 x y z = Cq.zero := by
     unfold partQ2; rw [g]
     refine Cq.ext' ?_ ?_ <;> simp only [Cq.div, Cq.norm, Cq.zero, Rat.mul_zero, Rat.add_zero, Rat.div_def, Rat.inv_zero]
   rw [e1]; exact (hz g).2
 · exact (hn g).2
theorem between_spec {V : View} {a b c : NumV} {x y z : Cq} {S : Nat} (ha : NumAt V a x) (hb : NumAt V b y) (hc : NumAt V c z) (sx : x.sz ≤ S) (sy : y.sz ≤ S) (sz : z.sz ≤ S) (hS : S ≤ 2 ^ 34) :
 CallV Try.prog n_scan_between #[a.val, b.val, c.val] V fun v V' => ∃ r : NumV, v = r.val ∧ NumAt V' r (betweenQ x y z) := by
 have s1 := Cq.sz_sub y x; have s2 := Cq.sz_mul z (y - x)
 refine scan_between_vc a b c V _ ((Num_Sub_spec hb ha (by omega) (by omega)).mono fun v V1 l1 ⟨r1, hv, h1⟩ => ⟨r1, hv, ?_⟩)
 refine (Num_Mul_spec (hc.le l1) h1 (by omega) (by omega)).mono fun v V2 l2 ⟨r2, hv, h2⟩ => ⟨r2, hv, ?_⟩
 exact (Num_Add_spec (ha.le (View.le_trans l1 l2)) h2 (by omega) (by omega)).mono fun v V3 l3 ⟨r3, hv, h3⟩ => ⟨r3, hv, r3, rfl, h3⟩
theorem checked1_spec {V : View} {s : Sl} {l : List Tk} (h : TicksAt V s l) {p : Option Addr} (hp : V.load p = some s.v) {t : Nat} {k : Tk} (hk : l[t]? = some k) :
 CallV Try.prog n_scan_checked_1 #[.int .i64 (t : Int), .pointer p] V fun v V' => ∃ r : NumV, v = .tuple #[r.val, .bool (decide (k.place.im = 0))] ∧ NumAt V' r k.time := by
 obtain ⟨g, y, hy, _, hs, ⟨h1, g1⟩, h2, g2⟩ := ticks_get h (t := (t : Int)) (by omega) (k := k) (by rw [Int.toNat_natCast]; exact hk)
 refine scan_checked_1_vc (t : Int) p V _ ⟨s, hp, g, hs, y.time, h1, g1, s, hp, g, hs, y.place, h2, g2, ?_⟩
 exact (Num_Real_spec hy.place).mono fun v V1 l1 hv => ⟨_, hv, _, rfl, hy.time.le l1⟩
theorem ascending_spec {V : View} {s : Sl} {l : List Tk} (h : TicksAt V s l) {S : Nat} (hz : ∀ k ∈ l, k.szle S) (hS : S ≤ 2 ^ 30) {p : Option Addr} (hp : V.load p = some s.v) :
 CallV Try.prog n_scan_ascending #[.int .i64 (s.len : Int), (Fn1.mk p).val n_scan_checked_1] V fun v _ => ∃ r : Int, v = .int .i64 r ∧ r = tickE l := by
 have hl : s.len = l.length := h.len
 refine scan_ascending__scan_checked_1_vc (s.len : Int) ⟨p⟩ V _ (fun _ _ _ => 1 ≤ l.length ∧ l.length ≤ 4096)
  (fun _ x V' => ∃ t : Nat, x.t16 = t ∧ t ≤ l.length ∧ (∀ k, prevA l t = some k → NumAt V' x.o5 k.time ∧ k.time.im = 0) ∧ ascF none l = ascF ((prevA l t).map fun k => k.time.re) (l.drop t)) (fun _ x _ => l.length - x.t16.toNat) ?_
 rw [hl]
 refine ⟨⟨fun h0 => ⟨_, rfl, ?_⟩, fun h0 => ⟨fun h1 => ⟨_, rfl, ?_⟩, fun h1 => ?_⟩⟩, ?_⟩
 · unfold tickE; rw [if_pos (.inl (by simpa using h0))]
 · unfold tickE; rw [if_pos (.inr (by simp at h1; omega))]
 · have h0 : l.length ≠ 0 := by simpa using h0
   exact ⟨by omega, by simp at h1; omega⟩
 rintro ⟨u⟩ V1 l1 ⟨hn1, hn2⟩
 refine ⟨⟨0, rfl, by omega, fun k hk => by simp [prevA] at hk, rfl⟩, ?_⟩
 rw [tickE_len hn1 hn2]
 rintro ⟨t16, o5⟩ V2 l2 ⟨t, et, ht, ho, hE⟩
 dsimp only at et ho ⊢
 subst et
 have L2 := View.le_trans l1 l2
 refine ⟨fun hlt => ?_, fun hge => ⟨_, rfl, ?_⟩⟩
 · have hk : t < l.length := by simp at hlt; omega
   have ek : l[t]? = some l[t] := List.getElem?_eq_getElem hk
   have hmem : l[t] ∈ l := List.getElem_mem hk
   obtain ⟨zt, zp⟩ := hz _ hmem
   rw [drop_at ek] at hE
   generalize hkk : l[t] = k at *
   refine (checked1_spec (h.le L2) (View.load_le L2 hp) ek).mono fun v V3 l3 ⟨r1, hv, h1⟩ => ⟨r1, _, hv, fun c => ⟨_, rfl, ?_⟩, fun c => ?_⟩
   · have c : ¬ k.place.im = 0 := by simpa using c
     rw [hE]; unfold ascF; rw [if_pos (by unfold Tk.real; simp [c])]
   have c : k.place.im = 0 := by simpa using c
   refine (Num_Real_spec h1).mono fun v V4 l4 hv => ⟨_, hv, fun d => ⟨_, rfl, ?_⟩, fun d => ?_⟩
   · have d : ¬ k.time.im = 0 := by simpa using d
     rw [hE]; unfold ascF; rw [if_pos (by unfold Tk.real; simp [d])]
   have d : k.time.im = 0 := by simpa using d
   have hr : ¬ k.real = false := by unfold Tk.real; simp [c, d]
   have step : ∀ V', View.le V4 V' → (∀ q, prevA l t = some q → ¬ k.time.re ≤ q.time.re) → (∃ t' : Nat, IntKind.i64.wrap ((t : Int) + 1) = t' ∧ t' ≤ l.length ∧ (∀ k, prevA l t' = some k → NumAt V' r1 k.time ∧ k.time.im = 0) ∧ ascF none l = ascF ((prevA l t').map fun k => k.time.re) (l.drop t')) ∧ l.length - (IntKind.i64.wrap ((t : Int) + 1)).toNat < l.length - (t : Int).toNat := by
    intro V' l' hq
    rw [i64w (by omega) (by omega)]
    refine ⟨⟨t + 1, by omega, by omega, ?_, ?_⟩, by omega⟩
    · intro k' hk'
      rw [prevA_succ, ek] at hk'
      obtain rfl := Option.some.inj hk'
      exact ⟨h1.le (View.le_trans l4 l'), d⟩
    · rw [hE, prevA_succ, ek]
      conv => lhs; unfold ascF
      rw [if_neg hr]
      cases hpa : prevA l t with
      | none => rfl
      | some q =>
        simp only [Option.map_some]
        rw [if_neg (hq q hpa)]
   refine ⟨fun c0 => ?_, fun c0 => step V4 (View.le_refl _) fun q hq => ?_⟩
   · have hpos : 0 < t := by simp at c0; omega
     have ep : l[t - 1]? = some l[t - 1] := List.getElem?_eq_getElem (by omega)
     have hpa : prevA l t = some l[t - 1] := by unfold prevA; rw [if_neg (by omega), ep]
     obtain ⟨ho1, ho2⟩ := ho _ hpa
     have zq := (hz _ (List.getElem_mem (show t - 1 < l.length by omega))).1
     generalize l[t - 1] = q at *
     refine (Num_Cmp_spec (h1.le l4) (ho1.le (View.le_trans l3 l4)) (by omega) (by omega)).mono fun v V5 l5 hv => ⟨_, hv, fun e => ⟨_, rfl, ?_⟩, fun e => step V5 l5 fun q' hq' => ?_⟩
     · rw [cmp_real d ho2] at e
       have e : k.time.re ≤ q.time.re := by
        rcases cmpR_val k.time.re q.time.re with ⟨g, _⟩ | ⟨g, _⟩ | ⟨_, g⟩
        · grind
        · grind
        · rw [g] at e; simp at e
       rw [hE, hpa]
       conv => rhs; unfold ascF
       rw [if_neg hr]
       simp only [Option.map_some]
       rw [if_pos e]
     · rw [hpa] at hq'
       obtain rfl := Option.some.inj hq'
       rw [cmp_real d ho2] at e
       rcases cmpR_val k.time.re q.time.re with ⟨_, g⟩ | ⟨_, g⟩ | ⟨g, _⟩
       · rw [g] at e; simp at e
       · rw [g] at e; simp at e
       · grind
   · have : t = 0 := by simp at c0; omega
     subst this
     simp [prevA] at hq
 · have e : t = l.length := by simp at hge; omega
   subst e
   rw [hE, List.drop_length]; rfl
theorem checked_spec {V : View} {s : Sl} {l : List Tk} (h : TicksAt V s l) {S : Nat} (hz : ∀ k ∈ l, k.szle S) (hS : S ≤ 2 ^ 30) :
 CallV Try.prog n_scan_checked #[s.v] V fun v _ => ∃ r : Int, v = .int .i64 r ∧ r = tickE l := by
 refine scan_checked_vc s V _ fun b1 V1 l1 hb1 => ?_
 have hld : V1.load (some (Addr.mk b1 0 none)) = some s.v := by simp [View.load, hb1]
 exact ⟨s, hld, (ascending_spec (h.le l1) hz hS hld).mono fun v V2 l2 ⟨r, hv, hr⟩ => ⟨r, hv, r, rfl, hr⟩⟩
theorem Where1_spec {V : View} {s : TickV} {k : Tk} (h : TickAt V s k) {p : Option Addr} {x : NumV} {t : Cq} (hp : V.has p x.val.cells.toList) (hs : Option.isSome p = true) (hx : NumAt V x t) {S : Nat} (zk : k.szle S) (zt : t.sz ≤ S) (hS : S ≤ 2 ^ 30) :
 CallV Try.prog n_scan_Where_1 #[s.val, .pointer p] V fun v _ => v = .bool (decide (0 ≤ k.time.cmp t)) := by
 obtain ⟨z1, z2⟩ := zk
 exact scan_Where_1_vc s p V _ ⟨x, hp, hs, (Num_Cmp_spec h.time hx (by omega) (by omega)).mono fun v V1 _ hv => ⟨_, hv, rfl⟩⟩
theorem IndexFuncTk {V : View} {s : Sl} {l : List Tk} (h : TicksAt V s l) (hn : l.length ≤ 2 ^ 40) {p : Option Addr} {x : NumV} {t : Cq} (hp : V.has p x.val.cells.toList) (hs : Option.isSome p = true) (hx : NumAt V x t) {S : Nat} (hz : ∀ k ∈ l, k.szle S) (zt : t.sz ≤ S) (hS : S ≤ 2 ^ 30) :
 CallV Try.prog n_slices_IndexFunc___scan_Tick_scan_Tick_ #[s.v, (Fn1.mk p).val n_scan_Where_1] V fun v _ => ∃ r : Int, v = .int .i64 r ∧
  ((r = -1 ∧ ∀ k ∈ l, ¬ 0 ≤ k.time.cmp t) ∨ ∃ (i : Nat) (k : Tk), r = i ∧ l[i]? = some k ∧ 0 ≤ k.time.cmp t ∧ ∀ k ∈ l.take i, ¬ 0 ≤ k.time.cmp t) := by
 have hl := h.len
 refine slices_IndexFunc___scan_Tick_scan_Tick___scan_Where_1_vc s ⟨p⟩ V _ (fun _ x _ => ∃ i : Nat, x.t8 = i ∧ i ≤ l.length ∧ ∀ k ∈ l.take i, ¬ 0 ≤ k.time.cmp t) (fun _ x _ => l.length - x.t8.toNat) ⟨⟨0, rfl, by omega, by simp⟩, ?_⟩
 rintro ⟨t8⟩ V1 l1 ⟨i, ei, hi, hno⟩
 dsimp only at ei ⊢
 subst ei
 refine ⟨fun hlt => ?_, fun hge => ⟨_, rfl, .inl ⟨rfl, ?_⟩⟩⟩
 · have hk : i < l.length := by simp at hlt; omega
   have ek : l[i]? = some l[i] := List.getElem?_eq_getElem hk
   obtain ⟨g, y, hy, hh, hsm, _⟩ := ticks_get (h.le l1) (t := (i : Int)) (by omega) (k := l[i]) (by rw [Int.toNat_natCast]; exact ek)
   refine ⟨g, y, hh, hsm, (Where1_spec hy (View.has_le l1 hp) hs (hx.le l1) (hz _ (List.getElem_mem hk)) zt hS).mono fun v V2 l2 hv => ⟨_, hv, fun c => ⟨_, rfl, .inr ⟨i, _, rfl, ek, by simpa using c, hno⟩⟩, fun c => ?_⟩⟩
   rw [i64w (by omega) (by omega)]
   refine ⟨⟨i + 1, by omega, by omega, fun k hm => ?_⟩, by omega⟩
   rw [List.take_add_one, ek] at hm
   rcases List.mem_append.1 hm with hm | hm
   · exact hno k hm
   · have : k = l[i] := by simpa using hm
     rw [this]; simpa using c
 · have e : i = l.length := by simp at hge; omega
   subst e
   rw [List.take_length] at hno
   exact hno
set_option maxHeartbeats 1000000 in
theorem Where_spec {V : View} {s : Sl} {l : List Tk} (h : TicksAt V s l) {x : NumV} {t : Cq} (hx : NumAt V x t) {S : Nat} (hz : ∀ k ∈ l, k.szle S) (zt : t.sz ≤ S) (hS : S ≤ 2 ^ 28) :
 CallV Try.prog n_scan_Where #[s.v, x.val] V fun v V' => ∃ r : NumV, v = .tuple #[r.val, .int .i64 (whereE t l)] ∧ NumAt V' r (whereV t l) := by
 have nil : ∀ (e : Int) (V' : View), whereE t l = e → whereV t l = Cq.zero → ∃ r : NumV, Value.tuple #[zN.val, .int .i64 e] = Value.tuple #[r.val, .int .i64 (whereE t l)] ∧ NumAt V' r (whereV t l) := fun e V' he h0 => by
  rw [he, h0]; exact ⟨_, rfl, NumAt.zero V'⟩
 refine scan_Where_vc s x V _ ((checked_spec h hz (by omega)).mono fun v V1 l1 ⟨r1, hv, e1⟩ => ⟨r1, hv, fun c => ?_, fun c => ?_⟩)
 · have c : tickE l ≠ 0 := by rw [← e1]; simpa using c
   exact nil _ V1 (by unfold whereE; rw [if_neg c, e1]) (by unfold whereV; rw [if_neg (by rintro ⟨g, _⟩; exact c g)])
 have c : tickE l = 0 := by rw [← e1]; simpa using c
 obtain ⟨n1, n2, asc⟩ := tickE_asc c
 refine (Num_Real_spec (hx.le l1)).mono fun v V2 l2 hv => ⟨_, hv, fun d => ?_, fun d => ?_⟩
 · have d : ¬ t.im = 0 := by simpa using d
   exact nil _ V2 (by unfold whereE; rw [if_pos c, if_neg d]) (by unfold whereV; rw [if_neg (by rintro ⟨_, g⟩; exact d g)])
 have d : t.im = 0 := by simpa using d
 have eE : whereE t l = if (whereP t none l).isSome = true then 0 else 5 := by unfold whereE; rw [if_pos c, if_pos d]
 have eV : whereV t l = (whereP t none l).getD Cq.zero := by unfold whereV; rw [if_pos ⟨c, d⟩]
 have no : ∀ V', whereP t none l = none → ∃ r : NumV, Value.tuple #[zN.val, .int .i64 5] = Value.tuple #[r.val, .int .i64 (whereE t l)] ∧ NumAt V' r (whereV t l) := fun V' g => nil 5 V' (by rw [eE, g]; rfl) (by rw [eV, g]; rfl)
 have yes : ∀ V' (r : NumV) (w : Cq), whereP t none l = some w → NumAt V' r w → ∃ r' : NumV, Value.tuple #[r.val, .int .i64 0] = Value.tuple #[r'.val, .int .i64 (whereE t l)] ∧ NumAt V' r' (whereV t l) := fun V' r w g hr => by
  rw [eE, eV, g]; exact ⟨r, rfl, hr⟩
 intro b1 V3 l3 hb1
 have hb : ∀ V', View.le V3 V' → V'.has (some (Addr.mk b1 0 none)) x.val.cells.toList := fun V' l' => View.has_le l' (rhas_block (cs := x.val.cells.toList) (j := 0) hb1 (fun i v hv => by rw [Nat.zero_add]; exact hv) rfl)
 have L3 := View.le_trans l1 (View.le_trans l2 l3)
 refine (IndexFuncTk (h.le L3) (by omega) (hb V3 (View.le_refl _)) rfl (hx.le L3) hz zt (by omega)).mono fun v V4 l4 ⟨r3, hv, hr⟩ => ⟨r3, hv, fun e => ?_, fun e => ?_⟩
 · rcases hr with ⟨_, hno⟩ | ⟨i, k, hi, _⟩
   · refine no V4 ?_
     rw [whereP_skip l.length (Nat.le_refl _) (by rw [List.take_length]; exact hno), List.drop_length]; rfl
   · simp at e; omega
 rcases hr with ⟨hr, _⟩ | ⟨i, k, hi, ek, hc, hno⟩
 · rw [hr] at e; simp at e
 have ilt : i < l.length := (List.getElem?_eq_some_iff.1 ek).1
 subst hi
 have L4 := View.le_trans L3 l4
 have eP : whereP t none l = if k.time = t then some k.place else match prevA l i with
  | none => none
  | some p => some (betweenQ p.place k.place (partQ2 t p.time k.time)) := by
  rw [whereP_skip i (by omega) hno, drop_at ek]
  show (if 0 ≤ k.time.cmp t then _ else _) = _
  rw [if_pos hc]
  cases prevA l i <;> rfl
 obtain ⟨zk1, zk2⟩ := hz k (List.mem_of_getElem? ek)
 obtain ⟨g, y, hy, _, hsm, ⟨ht1, ht2⟩, hp1, hp2⟩ := ticks_get (h.le L4) (t := (i : Int)) (by omega) (k := k) (by rw [Int.toNat_natCast]; exact ek)
 have same : ∀ V', View.le V4 V' → CallV Try.prog n_Num_Same #[y.time.val, x.val] V' fun v _ => v = .bool (decide (k.time = t)) := fun V' l' => Num_Same_spec (hy.time.le l') (hx.le (View.le_trans L4 l')) (by omega) (by omega)
 have behind : ∀ V', View.le V4 V' → ¬ k.time = t → 0 < i →
  ((0 : Int) ≤ (IntKind.i64.wrap ((i : Int) - 1)) ∧ ((IntKind.i64.wrap ((i : Int) - 1)) : Int) < (s.len : Nat) ∧ Option.isSome s.a = true) ∧
  Option.isSome (Option.map (fun q => Addr.add q (Int.toNat (IntKind.i64.wrap ((i : Int) - 1)) * 10)) s.a) = true ∧
  ∃ x6 : NumV, View.has V' (Option.map (fun q => Addr.add q 5) (Option.map (fun q => Addr.add q (Int.toNat (IntKind.i64.wrap ((i : Int) - 1)) * 10)) s.a)) (x6.val).cells.toList ∧ Option.isSome (Option.map (fun q => Addr.add q 5) (Option.map (fun q => Addr.add q (Int.toNat (IntKind.i64.wrap ((i : Int) - 1)) * 10)) s.a)) = true ∧
  ((0 : Int) ≤ (i : Int) ∧ ((i : Int) : Int) < (s.len : Nat) ∧ Option.isSome s.a = true) ∧
  Option.isSome (Option.map (fun q => Addr.add q (Int.toNat (i : Int) * 10)) s.a) = true ∧
  ∃ x7 : NumV, View.has V' (Option.map (fun q => Addr.add q 5) (Option.map (fun q => Addr.add q (Int.toNat (i : Int) * 10)) s.a)) (x7.val).cells.toList ∧ Option.isSome (Option.map (fun q => Addr.add q 5) (Option.map (fun q => Addr.add q (Int.toNat (i : Int) * 10)) s.a)) = true ∧
  ∃ x8 : NumV, View.has V' (some (Addr.mk b1 0 none)) (x8.val).cells.toList ∧ Option.isSome (some (Addr.mk b1 0 none)) = true ∧
  ((0 : Int) ≤ (IntKind.i64.wrap ((i : Int) - 1)) ∧ ((IntKind.i64.wrap ((i : Int) - 1)) : Int) < (s.len : Nat) ∧ Option.isSome s.a = true) ∧
  Option.isSome (Option.map (fun q => Addr.add q (Int.toNat (IntKind.i64.wrap ((i : Int) - 1)) * 10)) s.a) = true ∧
  ∃ x9 : NumV, View.has V' (Option.map (fun q => Addr.add q 0) (Option.map (fun q => Addr.add q (Int.toNat (IntKind.i64.wrap ((i : Int) - 1)) * 10)) s.a)) (x9.val).cells.toList ∧ Option.isSome (Option.map (fun q => Addr.add q 0) (Option.map (fun q => Addr.add q (Int.toNat (IntKind.i64.wrap ((i : Int) - 1)) * 10)) s.a)) = true ∧
  ((0 : Int) ≤ (i : Int) ∧ ((i : Int) : Int) < (s.len : Nat) ∧ Option.isSome s.a = true) ∧
  Option.isSome (Option.map (fun q => Addr.add q (Int.toNat (i : Int) * 10)) s.a) = true ∧
  ∃ x10 : NumV, View.has V' (Option.map (fun q => Addr.add q 0) (Option.map (fun q => Addr.add q (Int.toNat (i : Int) * 10)) s.a)) (x10.val).cells.toList ∧ Option.isSome (Option.map (fun q => Addr.add q 0) (Option.map (fun q => Addr.add q (Int.toNat (i : Int) * 10)) s.a)) = true ∧
  CallV Try.prog n_scan_part #[x8.val, x9.val, x10.val] V' fun v V7 => ∃ r6 : NumV, v = r6.val ∧
  CallV Try.prog n_scan_between #[x6.val, x7.val, r6.val] V7 fun v V8 => ∃ r7 : NumV, v = r7.val ∧
  ∃ r : NumV, Value.tuple #[r7.val, .int .i64 0] = Value.tuple #[r.val, .int .i64 (whereE t l)] ∧ NumAt V8 r (whereV t l) := by
  intro V' l' hne h0
  rw [i64w (by omega) (by omega)]
  have ep : l[i - 1]? = some l[i - 1] := List.getElem?_eq_getElem (by omega)
  have hpa : prevA l i = some l[i - 1] := by unfold prevA; rw [if_neg (by omega), ep]
  obtain ⟨zq1, zq2⟩ := hz _ (List.getElem_mem (show i - 1 < l.length by omega))
  obtain ⟨g', y', hy', _, hsm', ⟨ht1', ht2'⟩, hp1', hp2'⟩ := ticks_get (h.le L4) (t := (i : Int) - 1) (by omega) (k := l[i - 1]) (by rw [show ((i : Int) - 1).toNat = i - 1 by omega]; exact ep)
  generalize l[i - 1] = q at *
  rw [if_neg hne, hpa] at eP
  refine ⟨g', hsm', y'.place, View.has_le l' hp1', hp2', g, hsm, y.place, View.has_le l' hp1, hp2, x, hb V' (View.le_trans l4 l'), rfl, g', hsm', y'.time, View.has_le l' ht1', ht2', g, hsm, y.time, View.has_le l' ht1, ht2, ?_⟩
  have s1 := Cq.sz_sub t q.time; have s2 := Cq.sz_sub k.time q.time
  have s3 := div_sz (z := t - q.time) (w := k.time - q.time) (S := 2 * S + 2) (by omega) (by omega)
  refine (part_spec (hx.le (View.le_trans L4 l')) (hy'.time.le l') (hy.time.le l') zt zq1 zk1 (by omega)).mono fun v V5 l5 ⟨r6, hv, h6⟩ => ⟨r6, hv, ?_⟩
  exact (between_spec (hy'.place.le (View.le_trans l' l5)) (hy.place.le (View.le_trans l' l5)) h6 (S := 8 * S + 16) (by omega) (by omega) (by show ((t - q.time).div (k.time - q.time)).sz ≤ _; omega) (by omega)).mono fun v V6 l6 ⟨r7, hv, h7⟩ => ⟨r7, hv, yes V6 r7 _ eP h7⟩
 refine ⟨fun i0 => ?_, fun i0 => ?_⟩
 · have i0 : i = 0 := by simpa using i0
   subst i0
   refine ⟨g, hsm, y.time, ht1, ht2, x, hb V4 l4, rfl, (same V4 (View.le_refl _)).mono fun v V5 l5 hv => ⟨_, hv, fun c => ?_, fun c => ?_⟩⟩
   · have c : ¬ k.time = t := by simpa using c
     exact no V5 (by rw [eP, if_neg c]; rfl)
   · have c : k.time = t := by simpa using c
     refine ⟨g, hsm, y.time, View.has_le l5 ht1, ht2, x, hb V5 (View.le_trans l4 l5), rfl, (same V5 l5).mono fun v V6 l6 hv => ⟨_, hv, fun c' => ?_, fun c' => ?_⟩⟩
     · exact ⟨g, hsm, y.place, View.has_le (View.le_trans l5 l6) hp1, hp2, yes V6 _ _ (by rw [eP, if_pos c]) (hy.place.le (View.le_trans l5 l6))⟩
     · exact absurd c (by simpa using c')
 · have i0 : 0 < i := by
     have : i ≠ 0 := by simpa using i0
     omega
   refine ⟨g, hsm, y.time, ht1, ht2, x, hb V4 l4, rfl, (same V4 (View.le_refl _)).mono fun v V5 l5 hv => ⟨_, hv, fun c => ?_, fun c => ?_⟩⟩
   · have c : k.time = t := by simpa using c
     exact ⟨g, hsm, y.place, View.has_le l5 hp1, hp2, yes V5 _ _ (by rw [eP, if_pos c]) (hy.place.le l5)⟩
   · have c : ¬ k.time = t := by simpa using c
     exact behind V5 l5 c i0
theorem cmp_small (z w : Cq) : -1 ≤ z.cmp w ∧ z.cmp w ≤ 1 := by
 unfold Cq.cmp
 split
 · rcases cmpR_val z.re w.re with ⟨_, g⟩ | ⟨_, g⟩ | ⟨_, g⟩ <;> rw [g] <;> decide
 · rcases cmpR_val z.im w.im with ⟨_, g⟩ | ⟨_, g⟩ | ⟨_, g⟩ <;> rw [g] <;> decide
theorem mul_small {a b : Int} (ha : -1 ≤ a ∧ a ≤ 1) (hb : -1 ≤ b ∧ b ≤ 1) : IntKind.i64.wrap (a * b) = a * b := by
 have h1 : a = -1 ∨ a = 0 ∨ a = 1 := by omega
 have h2 : b = -1 ∨ b = 0 ∨ b = 1 := by omega
 rcases h1 with rfl | rfl | rfl <;> rcases h2 with rfl | rfl | rfl <;> decide
theorem first_spec {V : View} {s : Sl} {l : List Tk} (h : TicksAt V s l) (hn : 1 ≤ l.length) (hn2 : l.length ≤ 2 ^ 40) {x : NumV} {p : Cq} (hx : NumAt V x p) {S : Nat} (hz : ∀ k ∈ l, k.szle S) (zp : p.sz ≤ S) (hS : S ≤ 2 ^ 28) :
 CallV Try.prog n_scan_first #[s.v, x.val] V fun v V' => ∃ (r : NumV) (b : Bool), v = .tuple #[r.val, .bool b] ∧ b = (first0 p l).isSome ∧ NumAt V' r ((first0 p l).getD Cq.zero) := by
 have hl : s.len = l.length := h.len
 have ek : l[0]? = some l[0] := List.getElem?_eq_getElem (by omega)
 obtain ⟨g, y, hy, _, hs, ⟨h1, g1⟩, h2, g2⟩ := ticks_get h (t := 0) (by omega) (k := l[0]) ek
 obtain ⟨z1, z2⟩ := hz _ (List.getElem_mem (show 0 < l.length by omega))
 have e0 : first0 p l = if l[0].place = p then some l[0].time else firstP p l[0] (l.drop 1) := by
  rw [show first0 p l = first0 p (l.drop 0) from rfl, drop_at ek]; rfl
 refine scan_first_vc s x V _ (fun _ z _ => ∃ (i : Nat) (a : Tk), z.t6 = i ∧ 1 ≤ i ∧ i ≤ l.length ∧ l[i - 1]? = some a ∧ first0 p l = firstP p a (l.drop i)) (fun _ z _ => l.length - z.t6.toNat) ⟨g, hs, y.place, h2, g2, ?_⟩
 refine (Num_Same_spec hy.place hx (by omega) (by omega)).mono fun v V1 l1 hv => ⟨_, hv, fun c => ?_, fun c => ⟨?_, ?_⟩⟩
 · have c : l[0].place = p := by simpa using c
   rw [e0, if_pos c]
   exact ⟨g, hs, y.time, View.has_le l1 h1, g1, _, _, rfl, rfl, hy.time.le l1⟩
 · have c : ¬ l[0].place = p := by simpa using c
   exact ⟨1, l[0], rfl, by omega, by omega, ek, by rw [e0, if_neg c]⟩
 rintro ⟨t6, o4⟩ V2 l2 ⟨i, a, ei, i1, i2, ea, hE⟩
 dsimp only at ei ⊢
 subst ei
 have L2 := View.le_trans l1 l2
 rw [hl]
 refine ⟨fun hlt => ?_, fun hge => ?_⟩
 · have hk : i < l.length := by simp at hlt; omega
   rw [i64w (n := (i : Int) - 1) (by omega) (by omega), i64w (n := (i : Int) + 1) (by omega) (by omega)]
   have eb : l[i]? = some l[i] := List.getElem?_eq_getElem hk
   obtain ⟨za1, za2⟩ := hz a (List.mem_of_getElem? ea)
   obtain ⟨zb1, zb2⟩ := hz _ (List.getElem_mem hk)
   rw [drop_at eb] at hE
   obtain ⟨ga, ya, hya, hha, hsa, _⟩ := ticks_get (h.le L2) (t := (i : Int) - 1) (by omega) (k := a) (by rw [show ((i : Int) - 1).toNat = i - 1 by omega]; exact ea)
   obtain ⟨gb, yb, hyb, hhb, hsb, _⟩ := ticks_get (h.le L2) (t := (i : Int)) (by omega) (k := l[i]) (by rw [Int.toNat_natCast]; exact eb)
   rw [hl] at ga gb
   generalize l[i] = b at *
   have step : firstP p b (l.drop (i + 1)) = first0 p l → (∃ (j : Nat) (a : Tk), ((i : Int) + 1) = j ∧ 1 ≤ j ∧ j ≤ l.length ∧ l[j - 1]? = some a ∧ first0 p l = firstP p a (l.drop j)) ∧ l.length - ((i : Int) + 1).toNat < l.length - (i : Int).toNat :=
    fun he => ⟨⟨i + 1, b, by omega, by omega, by omega, by rw [Nat.add_sub_cancel]; exact eb, he.symm⟩, by omega⟩
   have eF : first0 p l = if 0 < (a.place.cmp p) * (b.place.cmp p) ∨ a.place = b.place then firstP p b (l.drop (i + 1)) else some (betweenQ a.time b.time (partQ2 p a.place b.place)) := hE
   have hxx := hx.le L2
   refine ⟨ga, ya, hha, hsa, gb, yb, hhb, hsb, (Num_Cmp_spec hya.place hxx (by omega) (by omega)).mono fun v V3 l3 hv => ⟨_, hv, ?_⟩⟩
   refine (Num_Cmp_spec (hyb.place.le l3) (hxx.le l3) (by omega) (by omega)).mono fun v V4 l4 hv => ⟨_, hv, ?_⟩
   rw [mul_small (cmp_small _ _) (cmp_small _ _)]
   have L4 := View.le_trans l3 l4
   refine ⟨fun c => step ?_, fun c => (Num_Same_spec (hya.place.le L4) (hyb.place.le L4) (by omega) (by omega)).mono fun v V5 l5 hv => ⟨_, hv, fun d => step ?_, fun d => ?_⟩⟩
   · rw [eF, if_pos (.inl (by simpa using c))]
   · rw [eF, if_pos (.inr (by simpa using d))]
   have c : ¬ 0 < (a.place.cmp p) * (b.place.cmp p) := by
    have := of_decide_eq_false c
    exact this
   have d : ¬ a.place = b.place := by simpa using d
   rw [if_neg (by rintro (g | g)
                  · exact c g
                  · exact d g)] at eF
   have L5 := View.le_trans L4 l5
   have s1 := Cq.sz_sub p a.place; have s2 := Cq.sz_sub b.place a.place
   have s3 := div_sz (z := p - a.place) (w := b.place - a.place) (S := 2 * S + 2) (by omega) (by omega)
   refine (part_spec (hxx.le L5) (hya.place.le L5) (hyb.place.le L5) zp za2 zb2 (by omega)).mono fun v V6 l6 ⟨r5, hv, h5⟩ => ⟨r5, hv, ?_⟩
   refine (between_spec (hya.time.le (View.le_trans L5 l6)) (hyb.time.le (View.le_trans L5 l6)) h5 (S := 8 * S + 16) (by omega) (by omega) (by show ((p - a.place).div (b.place - a.place)).sz ≤ _; omega) (by omega)).mono fun v V7 l7 ⟨r6, hv, h6⟩ => ⟨r6, hv, ?_⟩
   rw [eF]
   exact ⟨_, _, rfl, rfl, h6⟩
 · have e : i = l.length := by simp at hge; omega
   subst e
   rw [List.drop_length] at hE
   rw [hE]
   exact ⟨_, _, rfl, rfl, NumAt.zero V2⟩
theorem When_spec {V : View} {s : Sl} {l : List Tk} (h : TicksAt V s l) {x : NumV} {p : Cq} (hx : NumAt V x p) {S : Nat} (hz : ∀ k ∈ l, k.szle S) (zp : p.sz ≤ S) (hS : S ≤ 2 ^ 28) :
 CallV Try.prog n_scan_When #[s.v, x.val] V fun v V' => ∃ r : NumV, v = .tuple #[r.val, .int .i64 (whenE p l)] ∧ NumAt V' r (whenV p l) := by
 have nil : ∀ (e : Int) (V' : View), whenE p l = e → whenV p l = Cq.zero → ∃ r : NumV, Value.tuple #[zN.val, .int .i64 e] = Value.tuple #[r.val, .int .i64 (whenE p l)] ∧ NumAt V' r (whenV p l) := fun e V' he h0 => by
  rw [he, h0]; exact ⟨_, rfl, NumAt.zero V'⟩
 refine scan_When_vc s x V _ ((checked_spec h hz (by omega)).mono fun v V1 l1 ⟨r1, hv, e1⟩ => ⟨r1, hv, fun c => ?_, fun c => ?_⟩)
 · have c : tickE l ≠ 0 := by rw [← e1]; simpa using c
   exact nil _ V1 (by unfold whenE; rw [if_neg c, e1]) (by unfold whenV; rw [if_neg (by rintro ⟨g, _⟩; exact c g)])
 have c : tickE l = 0 := by rw [← e1]; simpa using c
 obtain ⟨n1, n2, asc⟩ := tickE_asc c
 refine (Num_Real_spec (hx.le l1)).mono fun v V2 l2 hv => ⟨_, hv, fun d => ?_, fun d => ?_⟩
 · have d : ¬ p.im = 0 := by simpa using d
   exact nil _ V2 (by unfold whenE; rw [if_pos c, if_neg d]) (by unfold whenV; rw [if_neg (by rintro ⟨_, g⟩; exact d g)])
 have d : p.im = 0 := by simpa using d
 have eE : whenE p l = if (first0 p l).isSome = true then 0 else 5 := by unfold whenE; rw [if_pos c, if_pos d]
 have eV : whenV p l = (first0 p l).getD Cq.zero := by unfold whenV; rw [if_pos ⟨c, d⟩]
 have L2 := View.le_trans l1 l2
 refine (first_spec (h.le L2) n1 (by omega) (hx.le L2) hz zp hS).mono fun v V3 l3 ⟨r3, b, hv, hb, h3⟩ => ⟨r3, b, hv, fun f => ?_, fun f => ?_⟩
 · have f : b = false := by simpa using f
   rw [f] at hb
   refine nil 5 V3 (by rw [eE, ← hb]; rfl) ?_
   rw [eV]
   cases hq : first0 p l with
   | none => rfl
   | some w => rw [hq] at hb; simp at hb
 · have f : b = true := by simpa using f
   rw [f] at hb
   rw [eE, eV, ← hb]
   exact ⟨r3, rfl, h3⟩
theorem interp_sz {a b x y z : Cq} {S : Nat} (ha : a.sz ≤ S) (hb : b.sz ≤ S) (hx : x.sz ≤ S) (hy : y.sz ≤ S) (hz : z.sz ≤ S) : (betweenQ a b (partQ2 x y z)).sz ≤ 16 * S + 40 := by
 have s1 := Cq.sz_sub x y; have s2 := Cq.sz_sub z y; have s4 := Cq.sz_sub b a
 have s3 := div_sz (z := x - y) (w := z - y) (S := 2 * S + 2) (by omega) (by omega)
 have s5 := Cq.sz_mul ((x - y).div (z - y)) (b - a)
 have s6 := Cq.sz_add a ((x - y).div (z - y) * (b - a))
 show (a + (x - y).div (z - y) * (b - a)).sz ≤ _
 omega
theorem whereP_sz {t : Cq} {S : Nat} (ht : t.sz ≤ S) : ∀ (l : List Tk) (prev : Option Tk), (∀ k ∈ l, k.szle S) → (∀ k, prev = some k → k.szle S) → ∀ w, whereP t prev l = some w → w.sz ≤ 16 * S + 40
 | [], _, _, _, w, h => by simp [whereP] at h
 | k :: l, prev, hl, hp, w, h => by
   have hk := hl k (by simp)
   unfold whereP at h
   split at h
   · split at h
     · obtain rfl := Option.some.inj h
       have := hk.2; omega
     · cases prev with
       | none => simp at h
       | some p =>
         have hq := hp p rfl
         obtain rfl := Option.some.inj h
         exact interp_sz hq.2 hk.2 ht hq.1 hk.1
   · exact whereP_sz ht l (some k) (fun k' h' => hl k' (by simp [h'])) (fun k' h' => by obtain rfl := Option.some.inj h'; exact hk) w h
theorem firstP_sz {p : Cq} {S : Nat} (ht : p.sz ≤ S) : ∀ (l : List Tk) (a : Tk), (∀ k ∈ l, k.szle S) → a.szle S → ∀ w, firstP p a l = some w → w.sz ≤ 16 * S + 40
 | [], _, _, _, w, h => by simp [firstP] at h
 | k :: l, a, hl, ha, w, h => by
   have hk := hl k (by simp)
   unfold firstP at h
   split at h
   · exact firstP_sz ht l k (fun k' h' => hl k' (by simp [h'])) hk w h
   · obtain rfl := Option.some.inj h
     exact interp_sz ha.1 hk.1 ht ha.2 hk.2
theorem getD_sz {o : Option Cq} {S : Nat} (h2 : 2 ≤ S) (h : ∀ w, o = some w → w.sz ≤ S) : (o.getD Cq.zero).sz ≤ S := by
 cases o with
 | none =>
   have : Cq.zero.sz ≤ 2 := by decide +kernel
   exact Nat.le_trans this h2
 | some w => exact h w rfl
theorem whereV_sz {t : Cq} {l : List Tk} {S : Nat} (hl : ∀ k ∈ l, k.szle S) (ht : t.sz ≤ S) : (whereV t l).sz ≤ 16 * S + 40 := by
 unfold whereV
 split
 · exact getD_sz (by omega) (whereP_sz ht l none hl (fun k h => by simp at h))
 · have : Cq.zero.sz ≤ 2 := by decide +kernel
   omega
theorem whenV_sz {p : Cq} {l : List Tk} {S : Nat} (hl : ∀ k ∈ l, k.szle S) (ht : p.sz ≤ S) : (whenV p l).sz ≤ 16 * S + 40 := by
 unfold whenV
 split
 · refine getD_sz (by omega) fun w hw => ?_
   cases l with
   | nil => simp [first0] at hw
   | cons k l =>
     have hk := hl k (by simp)
     have hw : (if k.place = p then some k.time else firstP p k l) = some w := hw
     split at hw
     · obtain rfl := Option.some.inj hw
       have := hk.1; omega
     · exact firstP_sz ht l k (fun k' h' => hl k' (by simp [h'])) hk w hw
 · have : Cq.zero.sz ≤ 2 := by decide +kernel
   omega

def ms0 : List Mk := [⟨0, 0, P3.zero⟩, ⟨1, 0, ⟨intQ 2, Cq.zero, Cq.zero⟩⟩, ⟨0, 1, ⟨intQ 1, intQ 3, Cq.zero⟩⟩]
def ts0 : List Tk := [⟨Cq.zero, Cq.zero⟩, ⟨intQ 10, intQ 5⟩]
theorem ms0_fit : fitE ms0 = 0 := by decide +kernel
theorem ms0_skew : (if (fitF ms0).real = true then dotP (fitF ms0).u (fitF ms0).v else Cq.zero) = intQ 2 := by decide +kernel
theorem ms0_real : (fitF ms0).real = true := by decide +kernel
theorem ts0_when : whenE (intQ 3) ts0 = 0 := by decide +kernel
theorem ts0_at : whenV (intQ 3) ts0 = intQ 6 := by decide +kernel
theorem text2 : ((cqS (intQ 2)).toList == (ByteArray.mk #[50]).toList) = true := by decide +kernel
theorem text6 : ((cqS (intQ 6)).toList == (ByteArray.mk #[54]).toList) = true := by decide +kernel
theorem int_at {V : View} {n : Int} (h0 : -9223372036854775808 ≤ n) (h1 : n ≤ 9223372036854775807) :
 CallV Try.prog n_num_Int #[.int .i64 n] V fun v V' => ∃ r : NumV, v = r.val ∧ NumAt V' r (intQ n) := num_Int_spec h0 h1
theorem Order42 {V : View} : CallV Try.prog n_scan_Order #[.int .i64 4, .int .i64 2] V fun v _ => v = .tuple #[.int .i64 (-2), .int .i64 0] := by
 have h1 : CallV Try.prog n_scan_length #[.int .i64 4] V fun v _ => v = .bool true :=
  scan_length_vc 4 V _ ⟨fun _ => ⟨fun _ => rfl, fun h => absurd h (by decide)⟩, fun h => absurd h (by decide)⟩
 refine scan_Order_vc 4 2 V _ (h1.mono fun v V1 _ hv => ⟨_, hv, fun h => absurd h (by decide), fun _ => ⟨fun h => absurd h (by decide), fun _ => ⟨fun h => absurd h (by decide), fun _ => ?_⟩⟩⟩)
 exact (scan_order_vc 4 2 V1 (fun v _ => v = .int .i64 (-2)) ⟨fun h => absurd h (by decide), fun _ => rfl⟩).mono fun v V2 _ hv => ⟨_, hv, rfl⟩
theorem sc_awake_spec {V : View} : CallV Try.prog n_waveportlaw08_awake #[] V fun v _ => v = .bool true := by
 refine waveportlaw08_awake_vc V _ ((int_at (by omega) (by omega)).mono fun v V1 l1 ⟨r1, hv, h1⟩ => ⟨r1, hv, ?_⟩)
 refine (int_at (by omega) (by omega)).mono fun v V2 l2 ⟨r2, hv, h2⟩ => ⟨r2, hv, ?_⟩
 refine (int_at (by omega) (by omega)).mono fun v V3 l3 ⟨r3, hv, h3⟩ => ⟨r3, hv, fun b1 V4 l4 _ hb1 => ?_⟩
 have hz4 : NumAt V4 zN Cq.zero := NumAt.zero V4
 have hM : MarksAt V4 (Sl.mk (some (Addr.mk b1 0 none)) 3 3) ms0 := by
  refine ListAt.of_block (V := V4) (sz := 17) (P := markC) (zs := ms0) (o := (MarkV.mk 0 0 ⟨zN, zN, zN⟩).val.cells.toList ++ ((MarkV.mk 1 0 ⟨r1, zN, zN⟩).val.cells.toList ++ (MarkV.mk 0 1 ⟨r2, r3, zN⟩).val.cells.toList)) (o' := []) (b := b1) (fun _ => by rw [List.append_nil]; exact hb1) ?_ rfl (Nat.le_refl _) (fun _ => rfl)
  exact ⟨_, _, rfl, rfl, ⟨_, rfl, rfl, rfl, hz4, hz4, hz4⟩, _, _, rfl, rfl, ⟨_, rfl, rfl, rfl, h1.le (View.le_trans l2 (View.le_trans l3 l4)), hz4, hz4⟩, _, [], by rw [List.append_nil], rfl, ⟨_, rfl, rfl, rfl, h2.le (View.le_trans l3 l4), h3.le l4, hz4⟩, rfl⟩
 have s0 : ∀ m ∈ ms0, m.in64 ∧ m.p.szle 1100 := by
  have z0 : Cq.zero.sz ≤ 64 := by decide +kernel
  have i0 : ∀ n : Int, -9223372036854775808 ≤ n ∧ n ≤ 9223372036854775807 → (intQ n).sz ≤ 1100 := fun n h => Nat.le_trans (intQ_sz h) (by omega)
  intro m hm
  simp only [ms0, List.mem_cons, List.not_mem_nil, or_false] at hm
  rcases hm with rfl | rfl | rfl
  · exact ⟨⟨⟨by decide, by decide⟩, ⟨by decide, by decide⟩⟩, Nat.le_trans z0 (by omega), Nat.le_trans z0 (by omega), Nat.le_trans z0 (by omega)⟩
  · exact ⟨⟨⟨by decide, by decide⟩, ⟨by decide, by decide⟩⟩, i0 2 (by omega), Nat.le_trans z0 (by omega), Nat.le_trans z0 (by omega)⟩
  · exact ⟨⟨⟨by decide, by decide⟩, ⟨by decide, by decide⟩⟩, i0 1 (by omega), i0 3 (by omega), Nat.le_trans z0 (by omega)⟩
 refine (Fit_spec hM (fun m hm => (s0 m hm).1) (fun m hm => (s0 m hm).2)).mono fun v V5 l5 ⟨r4, hv, h4, hsz⟩ => ⟨r4, _, hv, ?_⟩
 rw [ms0_fit] at h4
 simp only [if_true] at h4
 refine (Skew_spec h4 (hsz ms0_fit) (by omega)).mono fun v V6 l6 ⟨r6, hv, h6⟩ => ⟨r6, _, hv, ?_⟩
 rw [ms0_skew] at h6
 refine (int_at (by omega) (by omega)).mono fun v V7 l7 ⟨r8, hv, h8⟩ => ⟨r8, hv, ?_⟩
 refine (int_at (by omega) (by omega)).mono fun v V8 l8 ⟨r9, hv, h9⟩ => ⟨r9, hv, fun b2 V9 l9 _ hb2 => ?_⟩
 have hz9 : NumAt V9 zN Cq.zero := NumAt.zero V9
 have hT : TicksAt V9 (Sl.mk (some (Addr.mk b2 0 none)) 2 2) ts0 := by
  refine ListAt.of_block (V := V9) (sz := 10) (P := tickC) (zs := ts0) (o := (TickV.mk zN zN).val.cells.toList ++ (TickV.mk r8 r9).val.cells.toList) (o' := []) (b := b2) (fun _ => by rw [List.append_nil]; exact hb2) ?_ rfl (Nat.le_refl _) (fun _ => rfl)
  exact ⟨_, _, rfl, rfl, ⟨_, rfl, hz9, hz9⟩, _, [], by rw [List.append_nil], rfl, ⟨_, rfl, h8.le (View.le_trans l8 l9), h9.le l9⟩, rfl⟩
 refine (int_at (by omega) (by omega)).mono fun v V10 l10 ⟨r10, hv, h10⟩ => ⟨r10, hv, ?_⟩
 have t0 : ∀ k ∈ ts0, k.szle 64 := by
  have z0 : Cq.zero.sz ≤ 64 := by decide +kernel
  intro k hk
  simp only [ts0, List.mem_cons, List.not_mem_nil, or_false] at hk
  rcases hk with rfl | rfl
  · exact ⟨z0, z0⟩
  · exact ⟨intQ_sz (by omega), intQ_sz (by omega)⟩
 refine (When_spec (S := 64) (hT.le l10) h10 t0 (intQ_sz (by omega)) (by omega)).mono fun v V11 l11 ⟨r11, hv, h11⟩ => ⟨r11, _, hv, ?_⟩
 rw [ts0_at] at h11
 refine Order42.mono fun v V12 l12 hv => ⟨_, _, hv, fun _ => ⟨fun _ => ?_, fun h => ?_⟩, fun h => ?_⟩
 · have L12 := View.le_trans l7 (View.le_trans l8 (View.le_trans l9 (View.le_trans l10 (View.le_trans l11 l12))))
   have i2 : (intQ 2).sz ≤ 2 ^ 40 := Nat.le_trans (intQ_sz (by omega)) (by omega)
   have i6 : (intQ 6).sz ≤ 2 ^ 40 := Nat.le_trans (intQ_sz (by omega)) (by omega)
   refine (Num_Text_spec (h6.le L12) i2).mono fun v V13 l13 hv => ⟨_, hv, fun _ => ⟨fun _ => ?_, fun h => ?_⟩, fun h => ?_⟩
   · refine (Num_Text_spec (h11.le (View.le_trans l12 l13)) i6).mono fun v V14 _ hv => ⟨_, hv, fun _ => ⟨fun _ => rfl, fun h => absurd h (by decide)⟩, fun h => ?_⟩
     rw [text6] at h; exact absurd h (by decide)
   · rw [ts0_when] at h; exact absurd h (by decide)
   · rw [text2] at h; exact absurd h (by decide)
 · rw [if_pos ms0_real] at h; exact absurd h (by decide)
 · rw [ms0_fit] at h; exact absurd h (by decide)

def ltC (_ : View) (x : List Value) (k : LTickV) : Prop := x = k.val.cells.toList
def ltI (k : LTickV) : Prop := ratI k.time ∧ ratI k.place
def ltT (k : LTickV) : Tk := ⟨ratQ k.time, ratQ k.place⟩
theorem lt_sz {ks : List LTickV} (h : ∀ k ∈ ks, ltI k) : ∀ k ∈ ks.map ltT, k.szle 64 := by
 intro k hk
 obtain ⟨k0, h0, rfl⟩ := List.mem_map.1 hk
 exact ⟨ratQ_size (h k0 h0).1, ratQ_size (h k0 h0).2⟩
theorem take_map {α β : Type} {f : α → β} {l : List α} {t : Nat} {k : α} (h : l[t]? = some k) : (l.take (t + 1)).map f = (l.take t).map f ++ [f k] := by
 rw [List.take_add_one, h]; simp
theorem l8_ticks_spec {V : View} {s : Sl} {ks : List LTickV} (h : ListAt 6 ltC V s ks) (hi : ∀ k ∈ ks, ltI k) (hn : ks.length ≤ 2 ^ 20) :
 CallV Try.prog n_waveportlaw08_ticks #[s.v] V fun v V' => ∃ r1 r2 : Sl, v = .tuple #[r1.v, r2.v] ∧ TicksAt V' r1 (ks.map ltT) ∧ TicksQ V' r2 (ks.map ltT) := by
 have hl : s.len = ks.length := h.len
 refine waveportlaw08_ticks_vc s V _ (fun _ x V' => ∃ (t : Nat) (l4 l5 : List Value), x.t10 = t ∧ t ≤ ks.length ∧ LstOk 10 x.t4l x.t4c x.o4 l4 ∧ x.t4l = t ∧ Cells 10 tickC V' l4 ((ks.take t).map ltT) ∧ LstOk 10 x.t5l x.t5c x.o5 l5 ∧ x.t5l = t ∧ Cells 10 tickQC V' l5 ((ks.take t).map ltT))
  (fun _ x _ => ks.length - x.t10.toNat) ⟨⟨0, [], [], rfl, by omega, LstOk.nil, rfl, rfl, LstOk.nil, rfl, rfl⟩, ?_⟩
 rintro ⟨t4l, t4c, t5l, t5c, t10, o4, o5⟩ V1 l1 ⟨t, l4, l5, et, ht, hL4, e4, hC4, hL5, e5, hC5⟩
 dsimp only at et hL4 e4 hC4 hL5 e5 hC5 ⊢
 subst et; subst e4
 obtain rfl : t5l = t4l := e5
 rw [hl]
 refine ⟨fun hlt => ?_, fun hge => ?_⟩
 · have hk : t5l < ks.length := by simp at hlt; omega
   have ek : ks[t5l]? = some ks[t5l] := List.getElem?_eq_getElem hk
   obtain ⟨hi1, hi2⟩ := hi _ (List.getElem_mem hk)
   obtain ⟨g, x, hx, _, hh, hs⟩ := ListAt.get (ListAt.le (V := V) (V' := V1) (P := ltC) (fun _ _ e => e) l1 h) (t := (t5l : Int)) (by omega) (z := ks[t5l]) (by rw [Int.toNat_natCast]; exact ek)
   rw [hl] at g
   have tm := take_map (f := ltT) ek
   generalize ks[t5l] = k at *
   subst hx
   refine ⟨g, k, hh, hs, (law1_Of_spec hi1).mono fun v V2 l2 ⟨r1, hv, a1⟩ => ⟨r1, hv, (law1_Of_spec hi2).mono fun v V3 l3 ⟨r2, hv, a2⟩ => ⟨r2, hv, fun b1 V4 l4' _ hb1 => ?_⟩⟩⟩
   refine ⟨l4, (TickV.mk r1 r2).val.cells.toList, hL4, has_block hb1, rfl, ?_, by unfold maxLen; omega, by omega, fun c1 l3' hl3 => ?_⟩
   · intro v hv
     rcases List.mem_append.1 (show v ∈ r1.val.cells.toList ++ r2.val.cells.toList from hv) with hv | hv
     · exact oneCell_num r1 v hv
     · exact oneCell_num r2 v hv
   refine (ref1_Of_spec2 hi1).mono fun v V5 l5' ⟨r3, hv, a3⟩ => ⟨r3, hv, (ref1_Of_spec2 hi2).mono fun v V6 l6 ⟨r4, hv, a4⟩ => ⟨r4, hv, fun b2 V7 l7 _ hb2 => ?_⟩⟩
   refine ⟨l5, (TickV.mk r3 r4).val.cells.toList, hL5, has_block hb2, rfl, ?_, by unfold maxLen; omega, by omega, fun c2 l6' hl6 => ?_⟩
   · intro v hv
     rcases List.mem_append.1 (show v ∈ r3.val.cells.toList ++ r4.val.cells.toList from hv) with hv | hv
     · exact oneCell_num r3 v hv
     · exact oneCell_num r4 v hv
   rw [i64w (by omega) (by omega)]
   have L47 := View.le_trans l5' (View.le_trans l6 l7)
   have L27 := View.le_trans l3 (View.le_trans l4' L47)
   have L17 := View.le_trans l2 L27
   refine ⟨⟨t5l + 1, _, _, by omega, by omega, hl3, rfl, ?_, hl6, rfl, ?_⟩, by omega⟩
   · rw [tm]
     exact (hC4.imp (tickC.le L17)).append (Cells.one rfl ⟨_, rfl, a1.le L27, a2.le (View.le_trans l4' L47)⟩)
   · rw [tm]
     exact (hC5.imp (tickQC.le L17)).append (Cells.one rfl ⟨_, rfl, a3.le (View.le_trans l6 l7), a4.le l7⟩)
 · have e : t5l = ks.length := by simp at hge; omega
   subst e
   rw [List.take_length] at hC4 hC5
   intro b3 V8 l8 hb3 b4 V9 l9 hb4
   refine ⟨⟨lstA b3 t4c, _, t4c⟩, ⟨lstA b4 t5c, _, t5c⟩, rfl, ?_, ?_⟩
   · exact TicksAt.le l9 (ListAt.of_lst hL4 hb3 (hC4.imp (tickC.le l8)) (by rw [List.length_map]))
   · exact ListAt.of_lst hL5 hb4 (hC5.imp (tickQC.le (View.le_trans l8 l9))) (by rw [List.length_map])
end Go.Proofs.Ytefkpimcffofaaa
namespace Go.Proofs.Ytefkpimcffofaaa
open Go Go.Vc Go.Proofs Go.ChangeShapes Go.RowKit
abbrev i3 (fs : List FK) : List FK := .int .i64 :: .int .i64 :: .int .i64 :: fs
theorem three {fs : List FK} {cs : List Value} (h : AllOk (i3 fs) cs) :
 ∃ (r : RatV) (cs' : List Value), cs = .int .i64 r.re :: .int .i64 r.im :: .int .i64 r.den :: cs' ∧ ratI r ∧ AllOk fs cs' := by
 cases cs with
 | nil => exact h.elim
 | cons x cs =>
   obtain ⟨⟨a, e1, w1⟩, h⟩ := h
   cases cs with
   | nil => exact h.elim
   | cons y cs =>
     obtain ⟨⟨b, e2, w2⟩, h⟩ := h
     cases cs with
     | nil => exact h.elim
     | cons z cs =>
       obtain ⟨⟨c, e3, w3⟩, h⟩ := h
       exact ⟨⟨a, b, c⟩, cs, by rw [e1, e2, e3], ⟨bounds_i64 w1, bounds_i64 w2, bounds_i64 w3⟩, h⟩
theorem allok_nil {cs : List Value} (h : AllOk [] cs) : cs = [] := by
 cases cs with
 | nil => rfl
 | cons _ _ => exact h.elim
section
variable {H : Type} {enc : TypeId × Value → H} {P : Program} {w : World} {base : Nat} {spare : Nat → Bool} {held : Bool} {t : TypeId} {v : Value} {dd : DataW H} {ps : List MemPlace}
theorem open_ticksW {e : TypeId} (ht : P.underlying t = some (.slice e)) (hc : P.cellsOf e = 6) (hk : flatK P 8 e = some (i3 (i3 []))) (hv : ∃ a l c, v = .slice a l c) (h : DataW.Trod enc P w base spare held t v dd ps) :
 ∃ (s : Sl) (ks : List LTickV), v = s.v ∧ ListAt 6 ltC (worldView w) s ks ∧ ks.length ≤ maxLen ∧ ∀ k ∈ ks, ltI k := by
 obtain ⟨fuel, h⟩ := h
 obtain ⟨s, zs, e1, h1, h2, h3⟩ := trod_list (α := LTickV) ht hc ltI ltC (fun {fuel cs x} g => by
  obtain ⟨r0, c0, e0, h0, h⟩ := three (flatK_spec 8 fuel e _ cs x hk g)
  obtain ⟨r1, c1, e1, h1, h⟩ := three h
  exact ⟨⟨r0, r1⟩, ⟨h0, h1⟩, by rw [e0, e1, allok_nil h]; rfl⟩) h
 exact ⟨s, zs, one_of_cells e1 hv, h1, h2, h3⟩
end
end Go.Proofs.Ytefkpimcffofaaa
namespace Go.Proofs.Ytefkpimcffofaaa
open Go Go.Vc Go.Proofs
theorem when_zero {p : Cq} {l : List Tk} (h : whenE p l = 0) : tickE l = 0 ∧ p.im = 0 ∧ ∃ T, first0 p l = some T ∧ whenV p l = T := by
 unfold whenE at h
 split at h
 · rename_i c
   split at h
   · rename_i d
     split at h
     · rename_i e
       obtain ⟨T, hT⟩ := Option.isSome_iff_exists.1 e
       refine ⟨c, d, T, hT, ?_⟩
       unfold whenV
       rw [if_pos ⟨c, d⟩, hT]; rfl
     · exact absurd h (by decide)
   · exact absurd h (by decide)
 · rename_i c; exact absurd h c
theorem where_zero {t : Cq} {l : List Tk} (h : whereE t l = 0) : tickE l = 0 ∧ t.im = 0 ∧ ∃ w, whereP t none l = some w ∧ whereV t l = w := by
 unfold whereE at h
 split at h
 · rename_i c
   split at h
   · rename_i d
     split at h
     · rename_i e
       obtain ⟨w, hw⟩ := Option.isSome_iff_exists.1 e
       refine ⟨c, d, w, hw, ?_⟩
       unfold whereV
       rw [if_pos ⟨c, d⟩, hw]; rfl
     · exact absurd h (by decide)
   · exact absurd h (by decide)
 · rename_i c; exact absurd h c
theorem ScanWhen_spec {V : View} {s : Sl} {ks : List LTickV} {p t : RatV} (h : ListAt 6 ltC V s ks) (hi : ∀ k ∈ ks, ltI k) (hp : ratI p) (ht : ratI t) :
 CallV Try.prog n_waveportlaw08_ScanWhen #[s.v, p.val, t.val] V fun v _ => v = .bool true := by
 have hl : s.len = ks.length := h.len
 have aw : ∀ {V : View}, CallV Try.prog n_waveportlaw08_awake #[] V fun v V' => ∃ r : Bool, v = .bool r ∧ Value.bool r = .bool true := fun {V} => sc_awake_spec.mono fun v V' _ hv => ⟨_, hv, rfl⟩
 have zk := lt_sz hi
 have zp := ratQ_size hp
 have zt := ratQ_size ht
 have op : ∀ {V : View}, CallV Try.prog n_law1_Of #[p.val] V fun v V' => ∃ x : NumV, v = x.val ∧ NumAt V' x (ratQ p) := fun {V} => law1_Of_spec hp
 have ot : ∀ {V : View}, CallV Try.prog n_law1_Of #[t.val] V fun v V' => ∃ x : NumV, v = x.val ∧ NumAt V' x (ratQ t) := fun {V} => law1_Of_spec ht
 refine waveportlaw08_ScanWhen_vc s p t V _ (fun _ _ _ => True) (fun _ x _ => ∃ i : Nat, x.t51 = i ∧ i ≤ ks.length) (fun _ x _ => ks.length - x.t51.toNat) ⟨fun _ => aw, fun c => ?_⟩
 have hn : ks.length ≤ 40 := by simp at c; omega
 refine (l8_ticks_spec h hi (by omega)).mono fun v V2 l2 ⟨r2, r3, hv, h2, _⟩ => ⟨r2, r3, hv, ?_⟩
 have hln : (ks.map ltT).length = ks.length := List.length_map ..
 generalize ks.map ltT = l at *
 generalize ratQ p = P at *
 generalize ratQ t = Q at *
 have h2l : r2.len = ks.length := by rw [← hln]; exact h2.len
 refine op.mono fun v V3 l3 ⟨r4, hv, h4⟩ => ⟨r4, hv, ?_⟩
 refine (When_spec (h2.le l3) h4 zk zp (by omega)).mono fun v V4 l4 ⟨r5, hv, h5⟩ => ⟨r5, _, hv, fun _ => aw, fun c => ?_⟩
 have c : whenE P l = 0 := by simpa using c
 obtain ⟨te, pr, T, hT, eT⟩ := when_zero c
 have asc := (tickE_asc te).2.2
 have zT : T.sz ≤ 2000 := by rw [← eT]; exact Nat.le_trans (whenV_sz zk zp) (by omega)
 rw [eT] at h5
 obtain ⟨Tr, Tw, Tm, Tn⟩ := first_law pr asc hT
 have eE : whereE T l = 0 := by unfold whereE; rw [if_pos te, if_pos Tr, Tw]; rfl
 have eV : whereV T l = P := by unfold whereV; rw [if_pos ⟨te, Tr⟩, Tw]; rfl
 have zk2 : ∀ k ∈ l, k.szle 2000 := fun k hk => ⟨Nat.le_trans (zk k hk).1 (by omega), Nat.le_trans (zk k hk).2 (by omega)⟩
 have L24 := View.le_trans l3 l4
 refine (Where_spec (S := 2000) (h2.le L24) h5 zk2 zT (by omega)).mono fun v V6 l6 ⟨r8, hv, h8⟩ => ⟨r8, _, hv, ⟨fun c => ?_, fun _ => ?_⟩, ?_⟩
 · rw [eE] at c; exact absurd c (by decide)
 · rw [eV] at h8
   exact op.mono fun v V8 l8 ⟨r10, hv, h10⟩ => ⟨r10, hv, (Num_Same_spec (h8.le l8) h10 (by omega) (by omega)).mono fun v V9 _ hv => ⟨_, hv, fun c => absurd c (by simp), fun _ => trivial⟩⟩
 rintro ⟨u⟩ V7 l7 _
 refine ⟨⟨0, rfl, by omega⟩, ?_⟩
 rintro ⟨t51⟩ V10 l10 ⟨i, ei, hile⟩
 dsimp only at ei ⊢
 subst ei
 have L4a := View.le_trans l6 (View.le_trans l7 l10)
 have L2a := View.le_trans L24 L4a
 rw [h2l]
 refine ⟨fun hlt => ?_, fun hge => ?_⟩
 · have hk : i < l.length := by simp at hlt; omega
   have ek : l[i]? = some l[i] := List.getElem?_eq_getElem hk
   have hm := List.getElem_mem hk
   obtain ⟨g, y, hy, hh, hs, _⟩ := ticks_get (h2.le L2a) (t := (i : Int)) (by omega) (k := l[i]) (by rw [Int.toNat_natCast]; exact ek)
   rw [h2l] at g
   generalize l[i] = k at *
   obtain ⟨z1, z2⟩ := zk k hm
   have kr := (asc_real asc k hm).1
   rw [i64w (by omega) (by omega)]
   have step : (∃ j : Nat, ((i : Int) + 1) = j ∧ j ≤ ks.length) ∧ ks.length - ((i : Int) + 1).toNat < ks.length - (i : Int).toNat := ⟨⟨i + 1, by omega, by omega⟩, by omega⟩
   refine ⟨g, y, hh, hs, op.mono fun v V11 l11 ⟨r12, hv, h12⟩ => ⟨r12, hv, (Num_Same_spec (hy.place.le l11) h12 (by omega) (by omega)).mono fun v V12 l12 hv => ⟨_, hv, fun c => ?_, fun _ => step⟩⟩⟩
   have e : k.place = P := by simpa using c
   refine (Num_Cmp_spec (hy.time.le (View.le_trans l11 l12)) (h5.le (View.le_trans L4a (View.le_trans l11 l12))) (by omega) (by omega)).mono fun v V13 l13 hv => ⟨_, hv, fun c => ?_, fun _ => step⟩
   exfalso
   rw [cmp_real kr Tr] at c
   have := cmpR_ge.2 (Tm k hm e)
   have := of_decide_eq_true c
   omega
 · refine ot.mono fun v V14 l14 ⟨r15, hv, h15⟩ => ⟨r15, hv, ?_⟩
   refine (Where_spec (h2.le (View.le_trans L2a l14)) h15 zk zt (by omega)).mono fun v V15 l15 ⟨r16, hv, h16⟩ => ⟨r16, _, hv, fun _ => aw, fun c => ?_⟩
   have c : whereE Q l = 0 := by simpa using c
   obtain ⟨_, qr, w, hw, ew⟩ := where_zero c
   have zw : (whereV Q l).sz ≤ 2000 := Nat.le_trans (whereV_sz zk zt) (by omega)
   rw [ew] at h16 zw
   refine ot.mono fun v V17 l17 ⟨r19, hv, h19⟩ => ⟨r19, hv, ?_⟩
   refine (Num_Cmp_spec h19 (h5.le (View.le_trans L4a (View.le_trans l14 (View.le_trans l15 l17)))) (by omega) (by omega)).mono fun v V18 l18 hv => ⟨_, hv, fun _ => aw, fun c => ?_⟩
   have hlt : Q.re < T.re := by
    have c := of_decide_eq_false c
    rw [cmp_real qr Tr] at c
    exact Rat.not_le.1 fun g => c (cmpR_ge.2 g)
   refine op.mono fun v V20 l20 ⟨r22, hv, h22⟩ => ⟨r22, hv, ?_⟩
   refine (Num_Same_spec (h16.le (View.le_trans l17 (View.le_trans l18 l20))) h22 (by omega) (by omega)).mono fun v V21 l21 hv => ⟨_, hv, fun _ => aw, fun c => ?_⟩
   exact absurd (show w = P by simpa using c) (Tn Q qr hlt w hw)
end Go.Proofs.Ytefkpimcffofaaa
