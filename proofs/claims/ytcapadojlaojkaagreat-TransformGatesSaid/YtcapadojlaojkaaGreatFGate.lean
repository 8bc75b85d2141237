/- Part of the proof; it has the parts FGate. -/
import Derived.Test.YtcapadojlaojkaaGreatFFor
set_option maxRecDepth 100000
set_option maxHeartbeats 4000000
namespace Go.Proofs.YtcapadojlaojkaaGreat
open Go Go.Vc Go.Proofs

structure L_transform_within_0 where
  t11 : Int
  o8 : List Value
def transform_within_f0 (p0 : GateV) (p1 : Int) (_c : Unit) (w x : L_transform_within_0) : Prop := (Q1 (.val (.int .i64 p1)) ∧ Q1 (.own 2 0) ∧ Q1 (.osl 8 0 (Int.toNat p1) (Int.toNat p1)) ∧ Q1 (.val (.int .i64 p0.count)) ∧ E2 (.val (.int .i64 w.t11)) (.val (.int .i64 x.t11)) ∧ True) ∧ (O2 ⟨89, .fixed [.val (.int .i64 p0.from_), .val (.int .i64 p0.count)]⟩ ⟨89, .fixed [.val (.int .i64 p0.from_), .val (.int .i64 p0.count)]⟩ ∧ O2 ⟨4, .dyn w.o8⟩ ⟨4, .dyn x.o8⟩ ∧ True)
def transform_within_sk (p0 : GateV) (p1 : Int) (V : View) (R : Value → View → Prop) (I0 : Unit → L_transform_within_0 → View → Prop) (E0 : Unit → L_transform_within_0 → View → Prop) (B0 : Unit → L_transform_within_0 → View → L_transform_within_0 → View → Prop) : Prop :=
    ((0 : Int) ≤ p1 ∧ (p1 : Int) ≤ p1 ∧ (1 : Int) * p1 ≤ 281474976710656 ∧ (p1 : Int) ≤ 9223372036854775807) ∧
    E0 () (L_transform_within_0.mk 0 ((List.replicate (Int.toNat p1) [Value.bool false]).flatten)) V ∧
    (∀ (x2 : L_transform_within_0) (V1 : View), View.le V V1 → I0 () x2 V1 →
      ((decide ((x2.t11 : Int) < p0.count)) = true →
        (p1 : Int) ≠ 0 ∧
      ((0 : Int) ≤ (Int.tmod (IntKind.i64.wrap (p0.from_ + x2.t11)) p1) ∧ ((Int.tmod (IntKind.i64.wrap (p0.from_ + x2.t11)) p1) : Int) < (Int.toNat p1 : Nat)) ∧
      0 + Int.toNat (Int.tmod (IntKind.i64.wrap (p0.from_ + x2.t11)) p1) * 1 + 1 ≤ List.length x2.o8 ∧
      B0 () (L_transform_within_0.mk (IntKind.i64.wrap (x2.t11 + 1)) (List.set x2.o8 (0 + Int.toNat (Int.tmod (IntKind.i64.wrap (p0.from_ + x2.t11)) p1) * 1) (.bool true))) V1 x2 V1) ∧
      ((decide ((x2.t11 : Int) < p0.count)) = false →
        ∀ (b1 : Nat) (V2 : View), View.le V1 V2 → V2 b1 = some (List.toArray x2.o8) →
    R ((Sl.mk (some (Addr.mk b1 0 none)) (Int.toNat p1) (Int.toNat p1)).v) V2))

theorem transform_within_v0 (p0 : GateV) (p1 : Int) (V : View) (R : Value → View → Prop) (I0 : Unit → L_transform_within_0 → View → Prop) (J0 : Unit → L_transform_within_0 → View → Nat) {X : Prop} (e : transform_within_sk p0 p1 V R I0 I0 (fun c w V x U => I0 c w V ∧ J0 c w V < J0 c x U) = X) (h : X) :
  CallV Tryz.prog 118 #[p0.val, .int .i64 p1] V R :=
  calls_of_vc (Shp := Shp) hmixed Tryz.func118 (c := Tryz.f118.body.getD .skip) (args := [p0.val, .int .i64 p1]) (by kernel_rfl)
    (.seq (.reg [⟨2, 3, false⟩, ⟨4, 2, false⟩]) (.seq (.reg [⟨7, 2, false⟩, ⟨8, 3, false⟩, ⟨5, 2, false⟩]) (.seq (.seq (.reg [⟨9, 7, false⟩, ⟨2, 4, false⟩, ⟨11, 2, false⟩]) (.block (.loop Unit L_transform_within_0 (fun _ => ()) (fun c x => { tm := spT 24 0 [(1, .val (.int .i64 p1)), (2, .own 2 0), (5, .osl 8 0 (Int.toNat p1) (Int.toNat p1)), (10, .val (.int .i64 p0.count)), (11, .val (.int .i64 x.t11))], own := spO 24 0 [(2, ⟨89, .fixed [.val (.int .i64 p0.from_), .val (.int .i64 p0.count)]⟩), (8, ⟨4, .dyn x.o8⟩)] }) I0 J0 (.seq (.reg [⟨12, 0, false⟩]) (.seq (.cond .leaf .leaf) (.seq (.block (.seq (.reg [⟨13, 2, false⟩, ⟨6, 2, false⟩]) (.reg [⟨14, 2, false⟩, ⟨15, 7, false⟩, ⟨2, 4, false⟩, ⟨17, 2, false⟩, ⟨18, 0, false⟩, ⟨19, 2, false⟩, ⟨20, 12, false⟩, ⟨21, 7, false⟩, ⟨8, 6, false⟩]))) (.reg [⟨22, 0, false⟩, ⟨11, 2, false⟩]))))))) (.seq (.reg [⟨23, 2, false⟩, ⟨4, 2, false⟩]) (.pub 8 .leaf)))))
    (Eq.mpr (by kernel_rfl) (show transform_within_sk p0 p1 V R I0 (fun c w V => ∃ x, transform_within_f0 p0 p1 c w x ∧ I0 c x V) (fun c w V y U => ∃ x, transform_within_f0 p0 p1 c w x ∧ I0 c x V ∧ J0 c x V < J0 c y U) from by
    have h := Eq.mpr e h; unfold transform_within_sk at h ⊢; have Ee0 := fun c w V (h : I0 c w V) => (⟨w, ⟨⟨rfl, rfl, rfl, rfl, rfl, trivial⟩, ⟨rfl, rfl, trivial⟩⟩, h⟩ : ∃ x, transform_within_f0 p0 p1 c w x ∧ I0 c x V); have Bb0 := fun c w V y U (h : I0 c w V ∧ J0 c w V < J0 c y U) => (⟨w, ⟨⟨rfl, rfl, rfl, rfl, rfl, trivial⟩, ⟨rfl, rfl, trivial⟩⟩, h⟩ : ∃ x, transform_within_f0 p0 p1 c w x ∧ I0 c x V ∧ J0 c x V < J0 c y U); exact ⟨h.1, ⟨(Ee0 _ _ _ h.2.1), fun x2 V1 h4 h5 => ⟨fun h3 => ⟨((h.2.2 x2 V1 h4 h5).1 h3).1, ⟨((h.2.2 x2 V1 h4 h5).1 h3).2.1, ⟨((h.2.2 x2 V1 h4 h5).1 h3).2.2.1, (Bb0 _ _ _ _ _ ((h.2.2 x2 V1 h4 h5).1 h3).2.2.2)⟩⟩⟩, fun h3 => (fun b1 V2 h1 h2 => (((h.2.2 x2 V1 h4 h5).2 h3) b1 V2 h1 h2))⟩⟩⟩))

/-- waveport/transform.within -/
theorem transform_within_vc : type_of% (fun p0 p1 V R I0 J0 => transform_within_v0 p0 p1 V R I0 J0 (transform_within_sk.eq_1 ..)) := fun p0 p1 V R I0 J0 => transform_within_v0 p0 p1 V R I0 J0 (transform_within_sk.eq_1 ..)

structure L_transform_Cut_num_Num__0 where
  t25 : Int
  o19 : List Value
structure C_transform_Cut_num_Num__0 where
  t23 : Sl
  t24 : Int
def transform_Cut_num_Num__f0 (p0 : Sl) (c : C_transform_Cut_num_Num__0) (w x : L_transform_Cut_num_Num__0) : Prop := (Q1 (.val (p0.v)) ∧ Q1 (.osl 19 0 (Int.toNat (p0.len : Int)) (Int.toNat (p0.len : Int))) ∧ Q1 (.val (c.t23.v)) ∧ Q1 (.val (.int .i64 c.t24)) ∧ E2 (.val (.int .i64 w.t25)) (.val (.int .i64 x.t25)) ∧ True) ∧ (O2 ⟨68, .dyn w.o19⟩ ⟨68, .dyn x.o19⟩ ∧ True)
def transform_Cut_num_Num__sk (p0 : Sl) (p1 : GateV) (V : View) (R : Value → View → Prop) (I0 : C_transform_Cut_num_Num__0 → L_transform_Cut_num_Num__0 → View → Prop) (E0 : C_transform_Cut_num_Num__0 → L_transform_Cut_num_Num__0 → View → Prop) (B0 : C_transform_Cut_num_Num__0 → L_transform_Cut_num_Num__0 → View → L_transform_Cut_num_Num__0 → View → Prop) : Prop :=
    CallV Tryz.prog 117 #[p1.val, .int .i64 (p0.len : Int)] V fun v V1 => ∃ r1 : Int, v = .int .i64 r1 ∧ -- transform.valid
    (((r1 : Int) != 0) = true →
      R (.tuple #[(Sl.mk none 0 0).v, .int .i64 r1]) V1) ∧
    (((r1 : Int) != 0) = false →
      ((0 : Int) ≤ (p0.len : Int) ∧ ((p0.len : Int) : Int) ≤ (p0.len : Int) ∧ (88 : Int) * (p0.len : Int) ≤ 281474976710656 ∧ ((p0.len : Int) : Int) ≤ 9223372036854775807) ∧
    CallV Tryz.prog 118 #[p1.val, .int .i64 (p0.len : Int)] V1 fun v V2 => ∃ r2 : Sl, v = r2.v ∧ -- transform.within
    E0 (C_transform_Cut_num_Num__0.mk r2 (r2.len : Int)) (L_transform_Cut_num_Num__0.mk 0 ((List.replicate (Int.toNat (p0.len : Int)) [Value.bool false, Value.slice none 0 0, Value.bool false, Value.slice none 0 0, Value.slice none 0 0]).flatten)) V2 ∧
    (∀ (x2 : L_transform_Cut_num_Num__0) (V3 : View), View.le V2 V3 → I0 (C_transform_Cut_num_Num__0.mk r2 (r2.len : Int)) x2 V3 →
      ((decide ((x2.t25 : Int) < (r2.len : Int))) = true →
        ((0 : Int) ≤ x2.t25 ∧ (x2.t25 : Int) < (r2.len : Nat) ∧ Option.isSome r2.a = true) ∧
      ∃ x3 : Bool, View.load V3 (Option.map (fun q => Addr.add q (Int.toNat x2.t25 * 1)) r2.a) = some (.bool x3) ∧
      CallV Tryz.prog 119 #[.int .i64 0, .int .i64 1] V3 fun v V4 => ∃ r3 : NumV, v = r3.val ∧ -- transform.of[num.Num]
      ((0 : Int) ≤ x2.t25 ∧ (x2.t25 : Int) < (Int.toNat (p0.len : Int) : Nat)) ∧
      0 + Int.toNat x2.t25 * 5 + 5 ≤ List.length x2.o19 ∧
      (x3 = true →
        ((0 : Int) ≤ x2.t25 ∧ (x2.t25 : Int) < (p0.len : Nat) ∧ Option.isSome p0.a = true) ∧
        ∃ x4 : NumV, View.has V4 (Option.map (fun q => Addr.add q (Int.toNat x2.t25 * 5)) p0.a) (x4.val).cells.toList ∧ Option.isSome (Option.map (fun q => Addr.add q (Int.toNat x2.t25 * 5)) p0.a) = true ∧
        ((0 : Int) ≤ x2.t25 ∧ (x2.t25 : Int) < (Int.toNat (p0.len : Int) : Nat)) ∧
        0 + Int.toNat x2.t25 * 5 + 5 ≤ List.length (setL x2.o19 (0 + Int.toNat x2.t25 * 5) [.bool r3.re.neg, r3.re.mag.v, .bool r3.im.neg, r3.im.mag.v, r3.under.v]) ∧
        B0 (C_transform_Cut_num_Num__0.mk r2 (r2.len : Int)) (L_transform_Cut_num_Num__0.mk (IntKind.i64.wrap (x2.t25 + 1)) (setL (setL x2.o19 (0 + Int.toNat x2.t25 * 5) [.bool r3.re.neg, r3.re.mag.v, .bool r3.im.neg, r3.im.mag.v, r3.under.v]) (0 + Int.toNat x2.t25 * 5) [.bool x4.re.neg, x4.re.mag.v, .bool x4.im.neg, x4.im.mag.v, x4.under.v])) V4 x2 V3) ∧
      (x3 = false →
        B0 (C_transform_Cut_num_Num__0.mk r2 (r2.len : Int)) (L_transform_Cut_num_Num__0.mk (IntKind.i64.wrap (x2.t25 + 1)) (setL x2.o19 (0 + Int.toNat x2.t25 * 5) [.bool r3.re.neg, r3.re.mag.v, .bool r3.im.neg, r3.im.mag.v, r3.under.v])) V4 x2 V3)) ∧
      ((decide ((x2.t25 : Int) < (r2.len : Int))) = false →
        ∀ (b1 : Nat) (V5 : View), View.le V3 V5 → V5 b1 = some (List.toArray x2.o19) →
    R (.tuple #[(Sl.mk (some (Addr.mk b1 0 none)) (Int.toNat (p0.len : Int)) (Int.toNat (p0.len : Int))).v, .int .i64 0]) V5)))

theorem transform_Cut_num_Num__v0 (p0 : Sl) (p1 : GateV) (V : View) (R : Value → View → Prop) (I0 : C_transform_Cut_num_Num__0 → L_transform_Cut_num_Num__0 → View → Prop) (J0 : C_transform_Cut_num_Num__0 → L_transform_Cut_num_Num__0 → View → Nat) {X : Prop} (e : transform_Cut_num_Num__sk p0 p1 V R I0 I0 (fun c w V x U => I0 c w V ∧ J0 c w V < J0 c x U) = X) (h : X) :
  CallV Tryz.prog 50 #[p0.v, p1.val] V R :=
  calls_of_vc (Shp := Shp) hmixed Tryz.func50 (c := Tryz.f50.body.getD .skip) (args := [p0.v, p1.val]) (by kernel_rfl)
    (.seq (.reg [⟨3, 3, false⟩, ⟨4, 2, false⟩, ⟨5, 2, false⟩]) (.seq (.seq (.reg [⟨3, 4, false⟩, ⟨11, 2, false⟩, ⟨12, 0, false⟩, ⟨13, 10, false⟩, ⟨6, 2, false⟩]) (.seq (.reg [⟨14, 2, false⟩, ⟨15, 0, false⟩]) (.cond (.seq (.reg [⟨16, 2, false⟩, ⟨4, 2, false⟩, ⟨5, 2, false⟩]) .leaf) .leaf))) (.seq (.reg [⟨17, 2, false⟩, ⟨18, 0, false⟩, ⟨19, 3, false⟩, ⟨7, 2, false⟩]) (.seq (.seq (.reg [⟨3, 4, false⟩, ⟨21, 2, false⟩, ⟨22, 0, false⟩, ⟨23, 10, false⟩, ⟨24, 0, false⟩, ⟨25, 2, false⟩]) (.block (.loop C_transform_Cut_num_Num__0 L_transform_Cut_num_Num__0 (fun σ => C_transform_Cut_num_Num__0.mk (Sl.mk (gSlA (gTm σ 23)) (gSlL (gTm σ 23)) (gSlC (gTm σ 23))) (gInt (gTm σ 24))) (fun c x => { tm := spT 44 0 [(0, .val (p0.v)), (7, .osl 19 0 (Int.toNat (p0.len : Int)) (Int.toNat (p0.len : Int))), (23, .val (c.t23.v)), (24, .val (.int .i64 c.t24)), (25, .val (.int .i64 x.t25))], own := spO 44 0 [(19, ⟨68, .dyn x.o19⟩)] }) I0 J0 (.seq (.reg [⟨26, 0, false⟩]) (.seq (.cond .leaf .leaf) (.seq (.block (.seq (.reg [⟨27, 2, false⟩, ⟨28, 7, false⟩, ⟨29, 5, false⟩, ⟨8, 2, false⟩, ⟨9, 2, false⟩]) (.seq (.reg [⟨30, 2, false⟩, ⟨31, 2, false⟩, ⟨32, 10, false⟩, ⟨33, 7, false⟩, ⟨19, 6, false⟩]) (.seq (.reg [⟨34, 2, false⟩]) (.cond (.reg [⟨35, 2, false⟩, ⟨36, 2, false⟩, ⟨37, 2, false⟩, ⟨38, 2, false⟩, ⟨39, 7, false⟩, ⟨40, 5, false⟩, ⟨41, 7, false⟩, ⟨19, 6, false⟩]) .leaf))))) (.reg [⟨42, 0, false⟩, ⟨25, 2, false⟩]))))))) (.seq (.reg [⟨43, 2, false⟩, ⟨4, 2, false⟩, ⟨5, 2, false⟩]) (.pub 19 .leaf))))))
    (Eq.mpr (by kernel_rfl) (show transform_Cut_num_Num__sk p0 p1 V R I0 (fun c w V => ∃ x, transform_Cut_num_Num__f0 p0 c w x ∧ I0 c x V) (fun c w V y U => ∃ x, transform_Cut_num_Num__f0 p0 c w x ∧ I0 c x V ∧ J0 c x V < J0 c y U) from by
    have h := Eq.mpr e h; unfold transform_Cut_num_Num__sk at h ⊢; have Ee0 := fun c w V (h : I0 c w V) => (⟨w, ⟨⟨rfl, rfl, rfl, rfl, rfl, trivial⟩, ⟨rfl, trivial⟩⟩, h⟩ : ∃ x, transform_Cut_num_Num__f0 p0 c w x ∧ I0 c x V); have Bb0 := fun c w V y U (h : I0 c w V ∧ J0 c w V < J0 c y U) => (⟨w, ⟨⟨rfl, rfl, rfl, rfl, rfl, trivial⟩, ⟨rfl, trivial⟩⟩, h⟩ : ∃ x, transform_Cut_num_Num__f0 p0 c w x ∧ I0 c x V ∧ J0 c x V < J0 c y U); exact (CallV.mono h (fun _ _ _ ⟨r1, h18, h17⟩ => ⟨r1, h18, ⟨fun h16 => (h17.1 h16), fun h16 => ⟨(h17.2 h16).1, (CallV.mono (h17.2 h16).2 (fun _ _ _ ⟨r2, h15, h14⟩ => ⟨r2, h15, ⟨(Ee0 _ _ _ h14.1), fun x2 V3 h12 h13 => ⟨fun h11 => ⟨((h14.2 x2 V3 h12 h13).1 h11).1, (match ((h14.2 x2 V3 h12 h13).1 h11).2 with | ⟨x3, h8, h7⟩ => ⟨x3, h8, (CallV.mono h7 (fun _ _ _ ⟨r3, h6, h5⟩ => ⟨r3, h6, ⟨h5.1, ⟨h5.2.1, ⟨fun h4 => ⟨(h5.2.2.1 h4).1, (match (h5.2.2.1 h4).2 with | ⟨x4, h2, h3, h1⟩ => ⟨x4, h2, h3, ⟨h1.1, ⟨h1.2.1, (Bb0 _ _ _ _ _ h1.2.2)⟩⟩⟩)⟩, fun h4 => (Bb0 _ _ _ _ _ (h5.2.2.2 h4))⟩⟩⟩⟩))⟩)⟩, fun h11 => (fun b1 V5 h9 h10 => (((h14.2 x2 V3 h12 h13).2 h11) b1 V5 h9 h10))⟩⟩⟩))⟩⟩⟩))))

/-- waveport/transform.Cut[waveport/num.Num] -/
theorem transform_Cut_num_Num__vc : type_of% (fun p0 p1 V R I0 J0 => transform_Cut_num_Num__v0 p0 p1 V R I0 J0 (transform_Cut_num_Num__sk.eq_1 ..)) := fun p0 p1 V R I0 J0 => transform_Cut_num_Num__v0 p0 p1 V R I0 J0 (transform_Cut_num_Num__sk.eq_1 ..)

/-- waveport/transform.Gated[waveport/num.Num] -/
theorem transform_Gated_num_Num__vc (p0 : Sl) (p1 : Sl) (p2 : GateV) (V : View) (R : Value → View → Prop) 
  (h :
    CallV Tryz.prog 48 #[p0.v, p1.v] V fun v V1 => ∃ (r1 : Sl) (r2 : Int), v = .tuple #[r1.v, .int .i64 r2] ∧ -- transform.FastBack[num.Num]
    (((r2 : Int) != 0) = true →
      R (.tuple #[(Sl.mk none 0 0).v, .int .i64 r2]) V1) ∧
    (((r2 : Int) != 0) = false →
      CallV Tryz.prog 50 #[r1.v, p2.val] V1 fun v V2 => ∃ (r3 : Sl) (r4 : Int), v = .tuple #[r3.v, .int .i64 r4] ∧ -- transform.Cut[num.Num]
    (((r4 : Int) != 0) = true →
      R (.tuple #[(Sl.mk none 0 0).v, .int .i64 r4]) V2) ∧
    (((r4 : Int) != 0) = false →
      CallV Tryz.prog 46 #[r3.v, p1.v] V2 fun v V3 => ∃ (r5 : Sl) (r6 : Int), v = .tuple #[r5.v, .int .i64 r6] ∧ -- transform.Fast[num.Num]
    R (.tuple #[r5.v, .int .i64 r6]) V3))) :
  CallV Tryz.prog 54 #[p0.v, p1.v, p2.val] V R :=
  calls_of_vc (Shp := Shp) hmixed Tryz.func54 (c := Tryz.f54.body.getD .skip) (args := [p0.v, p1.v, p2.val]) (by kernel_rfl)
    (.seq (.reg [⟨5, 3, false⟩, ⟨6, 2, false⟩, ⟨7, 2, false⟩]) (.seq (.reg [⟨11, 2, false⟩, ⟨12, 2, false⟩, ⟨13, 10, false⟩, ⟨10, 2, false⟩, ⟨14, 0, false⟩, ⟨15, 0, false⟩, ⟨8, 2, false⟩, ⟨9, 2, false⟩]) (.seq (.seq (.reg [⟨16, 2, false⟩, ⟨17, 0, false⟩]) (.cond (.seq (.reg [⟨18, 2, false⟩, ⟨6, 2, false⟩, ⟨7, 2, false⟩]) .leaf) .leaf)) (.seq (.reg [⟨20, 2, false⟩, ⟨5, 4, false⟩, ⟨22, 10, false⟩, ⟨19, 2, false⟩, ⟨23, 0, false⟩, ⟨24, 0, false⟩, ⟨8, 2, false⟩, ⟨9, 2, false⟩]) (.seq (.seq (.reg [⟨25, 2, false⟩, ⟨26, 0, false⟩]) (.cond (.seq (.reg [⟨27, 2, false⟩, ⟨6, 2, false⟩, ⟨7, 2, false⟩]) .leaf) .leaf)) (.seq (.reg [⟨28, 2, false⟩, ⟨29, 2, false⟩, ⟨30, 10, false⟩, ⟨31, 0, false⟩, ⟨32, 0, false⟩, ⟨6, 2, false⟩, ⟨7, 2, false⟩]) .leaf))))))
    (Eq.mpr (by kernel_rfl) h)

end Go.Proofs.YtcapadojlaojkaaGreat
