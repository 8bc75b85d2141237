/- Part of the proof; it has the parts FGate. -/
import Derived.Test.YtnbjnokgmeamdaaFFor
set_option maxRecDepth 100000
set_option maxHeartbeats 4000000
namespace Go.Proofs.Ytnbjnokgmeamdaa
open Go Go.Vc Go.Proofs

structure L_transform_within_0 where
  t11 : Int
  o8 : List Value
def transform_within_f0 (p0 : GateV) (p1 : Int) (_c : Unit) (w x : L_transform_within_0) : Prop := (Q1 (.val (.int .i64 p1)) ∧ Q1 (.own 2 0) ∧ Q1 (.osl 8 0 (Int.toNat p1) (Int.toNat p1)) ∧ Q1 (.val (.int .i64 p0.count)) ∧ E2 (.val (.int .i64 w.t11)) (.val (.int .i64 x.t11)) ∧ True) ∧ (O2 ⟨50, .fixed [.val (.int .i64 p0.from_), .val (.int .i64 p0.count)]⟩ ⟨50, .fixed [.val (.int .i64 p0.from_), .val (.int .i64 p0.count)]⟩ ∧ O2 ⟨4, .dyn w.o8⟩ ⟨4, .dyn x.o8⟩ ∧ True)
def transform_within_sk (p0 : GateV) (p1 : Int) (V : View) (R : Value → View → Prop) (I0 : Unit → L_transform_within_0 → View → Prop) (E0 : Unit → L_transform_within_0 → View → Prop) (B0 : Unit → L_transform_within_0 → View → L_transform_within_0 → View → Prop) : Prop :=
    ((0 : Int) ≤ p1 ∧ (p1 : Int) ≤ p1 ∧ (1 : Int) * p1 ≤ 281474976710656 ∧ (p1 : Int) ≤ 9223372036854775807) ∧
    E0 () (L_transform_within_0.mk 0 ((List.replicate (Int.toNat p1) [Value.bool false]).flatten)) V ∧
    (∀ (x2 : L_transform_within_0) (V1 : View), View.le V V1 → I0 () x2 V1 →
      ((decide ((x2.t11 : Int) < p0.count)) = true →
        (p1 : Int) ≠ 0 ∧
      ((0 : Int) ≤ (Int.tmod (IntKind.i64.wrap (p0.from_ + x2.t11)) p1) ∧ ((Int.tmod (IntKind.i64.wrap (p0.from_ + x2.t11)) p1) : Int) < (Int.toNat p1 : Nat)) ∧
      0 + Int.toNat (Int.tmod (IntKind.i64.wrap (p0.from_ + x2.t11)) p1) * 1 + 1 ≤ List.length x2.o8 ∧
      B0 () (L_transform_within_0.mk (IntKind.i64.wrap (x2.t11 + 1)) (List.set x2.o8 (0 + Int.toNat (Int.tmod (IntKind.i64.wrap (p0.from_ + x2.t11)) p1) * 1) (.bool true))) V1 x2 V1) ∧
      ((decide ((x2.t11 : Int) < p0.count)) = false →
        ∀ (b1 : Nat) (V2 : View), View.le V1 V2 → V2 b1 = some (List.toArray x2.o8) →
    R ((Sl.mk (some (Addr.mk b1 0 none)) (Int.toNat p1) (Int.toNat p1)).v) V2))

theorem transform_within_v0 (p0 : GateV) (p1 : Int) (V : View) (R : Value → View → Prop) (I0 : Unit → L_transform_within_0 → View → Prop) (J0 : Unit → L_transform_within_0 → View → Nat) {X : Prop} (e : transform_within_sk p0 p1 V R I0 I0 (fun c w V x U => I0 c w V ∧ J0 c w V < J0 c x U) = X) (h : X) :
  CallV Try.prog 58 #[p0.val, .int .i64 p1] V R :=
  calls_of_vc (Shp := Shp) hmixed Try.func58 (c := Try.f58.body.getD .skip) (args := [p0.val, .int .i64 p1]) (by kernel_rfl)
    (.seq (.reg [⟨2, 3, false⟩, ⟨4, 2, false⟩]) (.seq (.reg [⟨7, 2, false⟩, ⟨8, 3, false⟩, ⟨5, 2, false⟩]) (.seq (.seq (.reg [⟨9, 7, false⟩, ⟨2, 4, false⟩, ⟨11, 2, false⟩]) (.block (.loop Unit L_transform_within_0 (fun _ => ()) (fun c x => { tm := spT 24 0 [(1, .val (.int .i64 p1)), (2, .own 2 0), (5, .osl 8 0 (Int.toNat p1) (Int.toNat p1)), (10, .val (.int .i64 p0.count)), (11, .val (.int .i64 x.t11))], own := spO 24 0 [(2, ⟨50, .fixed [.val (.int .i64 p0.from_), .val (.int .i64 p0.count)]⟩), (8, ⟨4, .dyn x.o8⟩)] }) I0 J0 (.seq (.reg [⟨12, 0, false⟩]) (.seq (.cond .leaf .leaf) (.seq (.block (.seq (.reg [⟨13, 2, false⟩, ⟨6, 2, false⟩]) (.reg [⟨14, 2, false⟩, ⟨15, 7, false⟩, ⟨2, 4, false⟩, ⟨17, 2, false⟩, ⟨18, 0, false⟩, ⟨19, 2, false⟩, ⟨20, 12, false⟩, ⟨21, 7, false⟩, ⟨8, 6, false⟩]))) (.reg [⟨22, 0, false⟩, ⟨11, 2, false⟩]))))))) (.seq (.reg [⟨23, 2, false⟩, ⟨4, 2, false⟩]) (.pub 8 .leaf)))))
    (Eq.mpr (by kernel_rfl) (show transform_within_sk p0 p1 V R I0 (fun c w V => ∃ x, transform_within_f0 p0 p1 c w x ∧ I0 c x V) (fun c w V y U => ∃ x, transform_within_f0 p0 p1 c w x ∧ I0 c x V ∧ J0 c x V < J0 c y U) from by
    have h := Eq.mpr e h; unfold transform_within_sk at h ⊢; have Ee0 := fun c w V (h : I0 c w V) => (⟨w, ⟨⟨rfl, rfl, rfl, rfl, rfl, trivial⟩, ⟨rfl, rfl, trivial⟩⟩, h⟩ : ∃ x, transform_within_f0 p0 p1 c w x ∧ I0 c x V); have Bb0 := fun c w V y U (h : I0 c w V ∧ J0 c w V < J0 c y U) => (⟨w, ⟨⟨rfl, rfl, rfl, rfl, rfl, trivial⟩, ⟨rfl, rfl, trivial⟩⟩, h⟩ : ∃ x, transform_within_f0 p0 p1 c w x ∧ I0 c x V ∧ J0 c x V < J0 c y U); exact ⟨h.1, ⟨(Ee0 _ _ _ h.2.1), fun x2 V1 h4 h5 => ⟨fun h3 => ⟨((h.2.2 x2 V1 h4 h5).1 h3).1, ⟨((h.2.2 x2 V1 h4 h5).1 h3).2.1, ⟨((h.2.2 x2 V1 h4 h5).1 h3).2.2.1, (Bb0 _ _ _ _ _ ((h.2.2 x2 V1 h4 h5).1 h3).2.2.2)⟩⟩⟩, fun h3 => (fun b1 V2 h1 h2 => (((h.2.2 x2 V1 h4 h5).2 h3) b1 V2 h1 h2))⟩⟩⟩))

/-- waveport/transform.within -/
theorem transform_within_vc : type_of% (fun p0 p1 V R I0 J0 => transform_within_v0 p0 p1 V R I0 J0 (transform_within_sk.eq_1 ..)) := fun p0 p1 V R I0 J0 => transform_within_v0 p0 p1 V R I0 J0 (transform_within_sk.eq_1 ..)

structure L_transform_Cut_num_Num__0 where
  t25 : Int
  o19 : List Value
structure C_transform_Cut_num_Num__0 where
  t23 : Sl
  t24 : Int
def transform_Cut_num_Num__f0 (p0 : Sl) (c : C_transform_Cut_num_Num__0) (w x : L_transform_Cut_num_Num__0) : Prop := (Q1 (.val (p0.v)) ∧ Q1 (.osl 19 0 (Int.toNat (p0.len : Int)) (Int.toNat (p0.len : Int))) ∧ Q1 (.val (c.t23.v)) ∧ Q1 (.val (.int .i64 c.t24)) ∧ E2 (.val (.int .i64 w.t25)) (.val (.int .i64 x.t25)) ∧ True) ∧ (O2 ⟨31, .dyn w.o19⟩ ⟨31, .dyn x.o19⟩ ∧ True)
def transform_Cut_num_Num__sk (p0 : Sl) (p1 : GateV) (V : View) (R : Value → View → Prop) (I0 : C_transform_Cut_num_Num__0 → L_transform_Cut_num_Num__0 → View → Prop) (E0 : C_transform_Cut_num_Num__0 → L_transform_Cut_num_Num__0 → View → Prop) (B0 : C_transform_Cut_num_Num__0 → L_transform_Cut_num_Num__0 → View → L_transform_Cut_num_Num__0 → View → Prop) : Prop :=
    CallV Try.prog 57 #[p1.val, .int .i64 (p0.len : Int)] V fun v V1 => ∃ r1 : Int, v = .int .i64 r1 ∧ -- transform.valid
    (((r1 : Int) != 0) = true →
      R (.tuple #[(Sl.mk none 0 0).v, .int .i64 r1]) V1) ∧
    (((r1 : Int) != 0) = false →
      ((0 : Int) ≤ (p0.len : Int) ∧ ((p0.len : Int) : Int) ≤ (p0.len : Int) ∧ (88 : Int) * (p0.len : Int) ≤ 281474976710656 ∧ ((p0.len : Int) : Int) ≤ 9223372036854775807) ∧
    CallV Try.prog 58 #[p1.val, .int .i64 (p0.len : Int)] V1 fun v V2 => ∃ r2 : Sl, v = r2.v ∧ -- transform.within
    E0 (C_transform_Cut_num_Num__0.mk r2 (r2.len : Int)) (L_transform_Cut_num_Num__0.mk 0 ((List.replicate (Int.toNat (p0.len : Int)) [Value.bool false, Value.slice none 0 0, Value.bool false, Value.slice none 0 0, Value.slice none 0 0]).flatten)) V2 ∧
    (∀ (x2 : L_transform_Cut_num_Num__0) (V3 : View), View.le V2 V3 → I0 (C_transform_Cut_num_Num__0.mk r2 (r2.len : Int)) x2 V3 →
      ((decide ((x2.t25 : Int) < (r2.len : Int))) = true →
        ((0 : Int) ≤ x2.t25 ∧ (x2.t25 : Int) < (r2.len : Nat) ∧ Option.isSome r2.a = true) ∧
      ∃ x3 : Bool, View.load V3 (Option.map (fun q => Addr.add q (Int.toNat x2.t25 * 1)) r2.a) = some (.bool x3) ∧
      CallV Try.prog 59 #[.int .i64 0, .int .i64 1] V3 fun v V4 => ∃ r3 : NumV, v = r3.val ∧ -- transform.of[num.Num]
      ((0 : Int) ≤ x2.t25 ∧ (x2.t25 : Int) < (Int.toNat (p0.len : Int) : Nat)) ∧
      0 + Int.toNat x2.t25 * 5 + 5 ≤ List.length x2.o19 ∧
      (x3 = true →
        ((0 : Int) ≤ x2.t25 ∧ (x2.t25 : Int) < (p0.len : Nat) ∧ Option.isSome p0.a = true) ∧
        ∃ x4 : NumV, View.has V4 (Option.map (fun q => Addr.add q (Int.toNat x2.t25 * 5)) p0.a) (x4.val).cells.toList ∧ Option.isSome (Option.map (fun q => Addr.add q (Int.toNat x2.t25 * 5)) p0.a) = true ∧
        ((0 : Int) ≤ x2.t25 ∧ (x2.t25 : Int) < (Int.toNat (p0.len : Int) : Nat)) ∧
        0 + Int.toNat x2.t25 * 5 + 5 ≤ List.length (setL x2.o19 (0 + Int.toNat x2.t25 * 5) [.bool r3.re.neg, r3.re.mag.v, .bool r3.im.neg, r3.im.mag.v, r3.under.v]) ∧
        B0 (C_transform_Cut_num_Num__0.mk r2 (r2.len : Int)) (L_transform_Cut_num_Num__0.mk (IntKind.i64.wrap (x2.t25 + 1)) (setL (setL x2.o19 (0 + Int.toNat x2.t25 * 5) [.bool r3.re.neg, r3.re.mag.v, .bool r3.im.neg, r3.im.mag.v, r3.under.v]) (0 + Int.toNat x2.t25 * 5) [.bool x4.re.neg, x4.re.mag.v, .bool x4.im.neg, x4.im.mag.v, x4.under.v])) V4 x2 V3) ∧
      (x3 = false →
        B0 (C_transform_Cut_num_Num__0.mk r2 (r2.len : Int)) (L_transform_Cut_num_Num__0.mk (IntKind.i64.wrap (x2.t25 + 1)) (setL x2.o19 (0 + Int.toNat x2.t25 * 5) [.bool r3.re.neg, r3.re.mag.v, .bool r3.im.neg, r3.im.mag.v, r3.under.v])) V4 x2 V3)) ∧
      ((decide ((x2.t25 : Int) < (r2.len : Int))) = false →
        ∀ (b1 : Nat) (V5 : View), View.le V3 V5 → V5 b1 = some (List.toArray x2.o19) →
    R (.tuple #[(Sl.mk (some (Addr.mk b1 0 none)) (Int.toNat (p0.len : Int)) (Int.toNat (p0.len : Int))).v, .int .i64 0]) V5)))

theorem transform_Cut_num_Num__v0 (p0 : Sl) (p1 : GateV) (V : View) (R : Value → View → Prop) (I0 : C_transform_Cut_num_Num__0 → L_transform_Cut_num_Num__0 → View → Prop) (J0 : C_transform_Cut_num_Num__0 → L_transform_Cut_num_Num__0 → View → Nat) {X : Prop} (e : transform_Cut_num_Num__sk p0 p1 V R I0 I0 (fun c w V x U => I0 c w V ∧ J0 c w V < J0 c x U) = X) (h : X) :
  CallV Try.prog 22 #[p0.v, p1.val] V R :=
  calls_of_vc (Shp := Shp) hmixed Try.func22 (c := Try.f22.body.getD .skip) (args := [p0.v, p1.val]) (by kernel_rfl)
    (.seq (.reg [⟨3, 3, false⟩, ⟨4, 2, false⟩, ⟨5, 2, false⟩]) (.seq (.seq (.reg [⟨3, 4, false⟩, ⟨11, 2, false⟩, ⟨12, 0, false⟩, ⟨13, 10, false⟩, ⟨6, 2, false⟩]) (.seq (.reg [⟨14, 2, false⟩, ⟨15, 0, false⟩]) (.cond (.seq (.reg [⟨16, 2, false⟩, ⟨4, 2, false⟩, ⟨5, 2, false⟩]) .leaf) .leaf))) (.seq (.reg [⟨17, 2, false⟩, ⟨18, 0, false⟩, ⟨19, 3, false⟩, ⟨7, 2, false⟩]) (.seq (.seq (.reg [⟨3, 4, false⟩, ⟨21, 2, false⟩, ⟨22, 0, false⟩, ⟨23, 10, false⟩, ⟨24, 0, false⟩, ⟨25, 2, false⟩]) (.block (.loop C_transform_Cut_num_Num__0 L_transform_Cut_num_Num__0 (fun σ => C_transform_Cut_num_Num__0.mk (Sl.mk (gSlA (gTm σ 23)) (gSlL (gTm σ 23)) (gSlC (gTm σ 23))) (gInt (gTm σ 24))) (fun c x => { tm := spT 44 0 [(0, .val (p0.v)), (7, .osl 19 0 (Int.toNat (p0.len : Int)) (Int.toNat (p0.len : Int))), (23, .val (c.t23.v)), (24, .val (.int .i64 c.t24)), (25, .val (.int .i64 x.t25))], own := spO 44 0 [(19, ⟨31, .dyn x.o19⟩)] }) I0 J0 (.seq (.reg [⟨26, 0, false⟩]) (.seq (.cond .leaf .leaf) (.seq (.block (.seq (.reg [⟨27, 2, false⟩, ⟨28, 7, false⟩, ⟨29, 5, false⟩, ⟨8, 2, false⟩, ⟨9, 2, false⟩]) (.seq (.reg [⟨30, 2, false⟩, ⟨31, 2, false⟩, ⟨32, 10, false⟩, ⟨33, 7, false⟩, ⟨19, 6, false⟩]) (.seq (.reg [⟨34, 2, false⟩]) (.cond (.reg [⟨35, 2, false⟩, ⟨36, 2, false⟩, ⟨37, 2, false⟩, ⟨38, 2, false⟩, ⟨39, 7, false⟩, ⟨40, 5, false⟩, ⟨41, 7, false⟩, ⟨19, 6, false⟩]) .leaf))))) (.reg [⟨42, 0, false⟩, ⟨25, 2, false⟩]))))))) (.seq (.reg [⟨43, 2, false⟩, ⟨4, 2, false⟩, ⟨5, 2, false⟩]) (.pub 19 .leaf))))))
    (Eq.mpr (by kernel_rfl) (show transform_Cut_num_Num__sk p0 p1 V R I0 (fun c w V => ∃ x, transform_Cut_num_Num__f0 p0 c w x ∧ I0 c x V) (fun c w V y U => ∃ x, transform_Cut_num_Num__f0 p0 c w x ∧ I0 c x V ∧ J0 c x V < J0 c y U) from by
    have h := Eq.mpr e h; unfold transform_Cut_num_Num__sk at h ⊢; have Ee0 := fun c w V (h : I0 c w V) => (⟨w, ⟨⟨rfl, rfl, rfl, rfl, rfl, trivial⟩, ⟨rfl, trivial⟩⟩, h⟩ : ∃ x, transform_Cut_num_Num__f0 p0 c w x ∧ I0 c x V); have Bb0 := fun c w V y U (h : I0 c w V ∧ J0 c w V < J0 c y U) => (⟨w, ⟨⟨rfl, rfl, rfl, rfl, rfl, trivial⟩, ⟨rfl, trivial⟩⟩, h⟩ : ∃ x, transform_Cut_num_Num__f0 p0 c w x ∧ I0 c x V ∧ J0 c x V < J0 c y U); exact (CallV.mono h (fun _ _ _ ⟨r1, h18, h17⟩ => ⟨r1, h18, ⟨fun h16 => (h17.1 h16), fun h16 => ⟨(h17.2 h16).1, (CallV.mono (h17.2 h16).2 (fun _ _ _ ⟨r2, h15, h14⟩ => ⟨r2, h15, ⟨(Ee0 _ _ _ h14.1), fun x2 V3 h12 h13 => ⟨fun h11 => ⟨((h14.2 x2 V3 h12 h13).1 h11).1, (match ((h14.2 x2 V3 h12 h13).1 h11).2 with | ⟨x3, h8, h7⟩ => ⟨x3, h8, (CallV.mono h7 (fun _ _ _ ⟨r3, h6, h5⟩ => ⟨r3, h6, ⟨h5.1, ⟨h5.2.1, ⟨fun h4 => ⟨(h5.2.2.1 h4).1, (match (h5.2.2.1 h4).2 with | ⟨x4, h2, h3, h1⟩ => ⟨x4, h2, h3, ⟨h1.1, ⟨h1.2.1, (Bb0 _ _ _ _ _ h1.2.2)⟩⟩⟩)⟩, fun h4 => (Bb0 _ _ _ _ _ (h5.2.2.2 h4))⟩⟩⟩⟩))⟩)⟩, fun h11 => (fun b1 V5 h9 h10 => (((h14.2 x2 V3 h12 h13).2 h11) b1 V5 h9 h10))⟩⟩⟩))⟩⟩⟩))))

/-- waveport/transform.Cut[waveport/num.Num] -/
theorem transform_Cut_num_Num__vc : type_of% (fun p0 p1 V R I0 J0 => transform_Cut_num_Num__v0 p0 p1 V R I0 J0 (transform_Cut_num_Num__sk.eq_1 ..)) := fun p0 p1 V R I0 J0 => transform_Cut_num_Num__v0 p0 p1 V R I0 J0 (transform_Cut_num_Num__sk.eq_1 ..)

structure L_waveportlaw07_plus_0 where
  t12 : Int
  o9 : List Value
def waveportlaw07_plus_f0 (p0 : Sl) (p1 : Sl) (_c : Unit) (w x : L_waveportlaw07_plus_0) : Prop := (Q1 (.val (p0.v)) ∧ Q1 (.val (p1.v)) ∧ Q1 (.osl 9 0 (Int.toNat (p0.len : Int)) (Int.toNat (p0.len : Int))) ∧ Q1 (.val (.int .i64 ((Int.toNat (p0.len : Int) : Nat) : Int))) ∧ E2 (.val (.int .i64 w.t12)) (.val (.int .i64 x.t12)) ∧ True) ∧ (O2 ⟨31, .dyn w.o9⟩ ⟨31, .dyn x.o9⟩ ∧ True)
def waveportlaw07_plus_sk (p0 : Sl) (p1 : Sl) (V : View) (R : Value → View → Prop) (I0 : Unit → L_waveportlaw07_plus_0 → View → Prop) (E0 : Unit → L_waveportlaw07_plus_0 → View → Prop) (B0 : Unit → L_waveportlaw07_plus_0 → View → L_waveportlaw07_plus_0 → View → Prop) : Prop :=
    ((0 : Int) ≤ (p0.len : Int) ∧ ((p0.len : Int) : Int) ≤ (p0.len : Int) ∧ (88 : Int) * (p0.len : Int) ≤ 281474976710656 ∧ ((p0.len : Int) : Int) ≤ 9223372036854775807) ∧
    E0 () (L_waveportlaw07_plus_0.mk 0 ((List.replicate (Int.toNat (p0.len : Int)) [Value.bool false, Value.slice none 0 0, Value.bool false, Value.slice none 0 0, Value.slice none 0 0]).flatten)) V ∧
    (∀ (x2 : L_waveportlaw07_plus_0) (V1 : View), View.le V V1 → I0 () x2 V1 →
      ((decide ((x2.t12 : Int) < ((Int.toNat (p0.len : Int) : Nat) : Int))) = true →
        ((0 : Int) ≤ x2.t12 ∧ (x2.t12 : Int) < (p0.len : Nat) ∧ Option.isSome p0.a = true) ∧
      ∃ x3 : NumV, View.has V1 (Option.map (fun q => Addr.add q (Int.toNat x2.t12 * 5)) p0.a) (x3.val).cells.toList ∧ Option.isSome (Option.map (fun q => Addr.add q (Int.toNat x2.t12 * 5)) p0.a) = true ∧
      ((p1.len : Int) : Int) ≠ 0 ∧
      ((0 : Int) ≤ (Int.tmod x2.t12 (p1.len : Int)) ∧ ((Int.tmod x2.t12 (p1.len : Int)) : Int) < (p1.len : Nat) ∧ Option.isSome p1.a = true) ∧
      ∃ x4 : NumV, View.has V1 (Option.map (fun q => Addr.add q (Int.toNat (Int.tmod x2.t12 (p1.len : Int)) * 5)) p1.a) (x4.val).cells.toList ∧ Option.isSome (Option.map (fun q => Addr.add q (Int.toNat (Int.tmod x2.t12 (p1.len : Int)) * 5)) p1.a) = true ∧
      CallV Try.prog 60 #[x3.val, x4.val] V1 fun v V2 => ∃ r1 : NumV, v = r1.val ∧ -- (num.Num).Add
      ((0 : Int) ≤ x2.t12 ∧ (x2.t12 : Int) < (Int.toNat (p0.len : Int) : Nat)) ∧
      0 + Int.toNat x2.t12 * 5 + 5 ≤ List.length x2.o9 ∧
      B0 () (L_waveportlaw07_plus_0.mk (IntKind.i64.wrap (x2.t12 + 1)) (setL x2.o9 (0 + Int.toNat x2.t12 * 5) [.bool r1.re.neg, r1.re.mag.v, .bool r1.im.neg, r1.im.mag.v, r1.under.v])) V2 x2 V1) ∧
      ((decide ((x2.t12 : Int) < ((Int.toNat (p0.len : Int) : Nat) : Int))) = false →
        ∀ (b1 : Nat) (V3 : View), View.le V1 V3 → V3 b1 = some (List.toArray x2.o9) →
    R ((Sl.mk (some (Addr.mk b1 0 none)) (Int.toNat (p0.len : Int)) (Int.toNat (p0.len : Int))).v) V3))

theorem waveportlaw07_plus_v0 (p0 : Sl) (p1 : Sl) (V : View) (R : Value → View → Prop) (I0 : Unit → L_waveportlaw07_plus_0 → View → Prop) (J0 : Unit → L_waveportlaw07_plus_0 → View → Nat) {X : Prop} (e : waveportlaw07_plus_sk p0 p1 V R I0 I0 (fun c w V x U => I0 c w V ∧ J0 c w V < J0 c x U) = X) (h : X) :
  CallV Try.prog 24 #[p0.v, p1.v] V R :=
  calls_of_vc (Shp := Shp) hmixed Try.func24 (c := Try.f24.body.getD .skip) (args := [p0.v, p1.v]) (by kernel_rfl)
    (.seq (.reg [⟨4, 2, false⟩]) (.seq (.reg [⟨7, 2, false⟩, ⟨8, 0, false⟩, ⟨9, 3, false⟩, ⟨5, 2, false⟩]) (.seq (.seq (.reg [⟨10, 2, false⟩, ⟨11, 7, false⟩, ⟨12, 2, false⟩]) (.block (.loop Unit L_waveportlaw07_plus_0 (fun _ => ()) (fun c x => { tm := spT 32 0 [(0, .val (p0.v)), (1, .val (p1.v)), (5, .osl 9 0 (Int.toNat (p0.len : Int)) (Int.toNat (p0.len : Int))), (11, .val (.int .i64 ((Int.toNat (p0.len : Int) : Nat) : Int))), (12, .val (.int .i64 x.t12))], own := spO 32 0 [(9, ⟨31, .dyn x.o9⟩)] }) I0 J0 (.seq (.reg [⟨13, 0, false⟩]) (.seq (.cond .leaf .leaf) (.seq (.block (.seq (.reg [⟨14, 2, false⟩, ⟨6, 2, false⟩]) (.draw [(0, ⟨15, 2, false⟩), (1, ⟨16, 2, false⟩), (2, ⟨17, 2, false⟩), (3, ⟨18, 2, false⟩), (4, ⟨19, 7, false⟩), (5, ⟨20, 5, false⟩), (6, ⟨21, 2, false⟩), (7, ⟨22, 2, false⟩), (8, ⟨23, 2, false⟩), (9, ⟨24, 0, false⟩), (10, ⟨25, 12, false⟩), (11, ⟨26, 7, false⟩), (12, ⟨27, 5, false⟩), (13, ⟨28, 10, false⟩), (14, ⟨29, 7, false⟩), (15, ⟨9, 6, false⟩)] [0, 0, 0, 0, 12, 28, 0, 0, 0, 256, 896, 1984, 4032, 8188, 16383, 32767]))) (.reg [⟨30, 0, false⟩, ⟨12, 2, false⟩]))))))) (.seq (.reg [⟨31, 2, false⟩, ⟨4, 2, false⟩]) (.pub 9 .leaf)))))
    (Eq.mpr (by kernel_rfl) (show waveportlaw07_plus_sk p0 p1 V R I0 (fun c w V => ∃ x, waveportlaw07_plus_f0 p0 p1 c w x ∧ I0 c x V) (fun c w V y U => ∃ x, waveportlaw07_plus_f0 p0 p1 c w x ∧ I0 c x V ∧ J0 c x V < J0 c y U) from by
    have h := Eq.mpr e h; unfold waveportlaw07_plus_sk at h ⊢; have Ee0 := fun c w V (h : I0 c w V) => (⟨w, ⟨⟨rfl, rfl, rfl, rfl, rfl, trivial⟩, ⟨rfl, trivial⟩⟩, h⟩ : ∃ x, waveportlaw07_plus_f0 p0 p1 c w x ∧ I0 c x V); have Bb0 := fun c w V y U (h : I0 c w V ∧ J0 c w V < J0 c y U) => (⟨w, ⟨⟨rfl, rfl, rfl, rfl, rfl, trivial⟩, ⟨rfl, trivial⟩⟩, h⟩ : ∃ x, waveportlaw07_plus_f0 p0 p1 c w x ∧ I0 c x V ∧ J0 c x V < J0 c y U); exact ⟨h.1, ⟨(Ee0 _ _ _ h.2.1), fun x2 V1 h12 h13 => ⟨fun h11 => ⟨((h.2.2 x2 V1 h12 h13).1 h11).1, (match ((h.2.2 x2 V1 h12 h13).1 h11).2 with | ⟨x3, h7, h8, h6⟩ => ⟨x3, h7, h8, ⟨h6.1, ⟨h6.2.1, (match h6.2.2 with | ⟨x4, h4, h5, h3⟩ => ⟨x4, h4, h5, (CallV.mono h3 (fun _ _ _ ⟨r1, h2, h1⟩ => ⟨r1, h2, ⟨h1.1, ⟨h1.2.1, (Bb0 _ _ _ _ _ h1.2.2)⟩⟩⟩))⟩)⟩⟩⟩)⟩, fun h11 => (fun b1 V3 h9 h10 => (((h.2.2 x2 V1 h12 h13).2 h11) b1 V3 h9 h10))⟩⟩⟩))

/-- waveport/waveportlaw07.plus -/
theorem waveportlaw07_plus_vc : type_of% (fun p0 p1 V R I0 J0 => waveportlaw07_plus_v0 p0 p1 V R I0 J0 (waveportlaw07_plus_sk.eq_1 ..)) := fun p0 p1 V R I0 J0 => waveportlaw07_plus_v0 p0 p1 V R I0 J0 (waveportlaw07_plus_sk.eq_1 ..)

end Go.Proofs.Ytnbjnokgmeamdaa
