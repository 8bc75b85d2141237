/- Part of the proof; it has the parts FFor. -/
import Derived.Test.YtnbjnokgmeamdaaFText
set_option maxRecDepth 100000
set_option maxHeartbeats 4000000
namespace Go.Proofs.Ytnbjnokgmeamdaa
open Go Go.Vc Go.Proofs

/-- waveport/waveportlaw07.small -/
theorem waveportlaw07_small_vc (p0 : RatV) (V : View) (R : Value → View → Prop) 
  (h :
    ((decide (((Int.tmod p0.den 6) : Int) < 0)) = true →
      R ((RatV.mk (Int.tmod p0.re 21) (Int.tmod p0.im 21) (IntKind.i64.wrap ((IntKind.i64.wrap (0 - (Int.tmod p0.den 6))) + 1))).val) V) ∧
    ((decide (((Int.tmod p0.den 6) : Int) < 0)) = false →
      R ((RatV.mk (Int.tmod p0.re 21) (Int.tmod p0.im 21) (IntKind.i64.wrap ((Int.tmod p0.den 6) + 1))).val) V)) :
  CallV Try.prog 56 #[p0.val] V R :=
  calls_of_vc (Shp := Shp) hmixed Try.func56 (c := Try.f56.body.getD .skip) (args := [p0.val]) (by kernel_rfl)
    (.seq (.reg [⟨1, 3, false⟩, ⟨2, 3, false⟩]) (.seq (.reg [⟨4, 7, false⟩, ⟨1, 4, false⟩, ⟨6, 0, false⟩, ⟨3, 2, false⟩]) (.seq (.seq (.reg [⟨7, 2, false⟩, ⟨8, 0, false⟩]) (.cond (.reg [⟨9, 2, false⟩, ⟨10, 0, false⟩, ⟨3, 2, false⟩]) .leaf)) (.seq (.reg [⟨11, 7, false⟩, ⟨1, 4, false⟩, ⟨13, 0, false⟩, ⟨14, 7, false⟩, ⟨1, 4, false⟩, ⟨16, 0, false⟩, ⟨17, 2, false⟩, ⟨18, 0, false⟩, ⟨19, 0, false⟩, ⟨2, 6, false⟩]) .leaf))))
    (Eq.mpr (by kernel_rfl) h)

structure L_waveportlaw07_repeated_0 where
  t11 : Int
  o8 : List Value
def waveportlaw07_repeated_f0 (p0 : Sl) (p1 : Int) (_c : Unit) (w x : L_waveportlaw07_repeated_0) : Prop := (Q1 (.val (p0.v)) ∧ Q1 (.osl 8 0 (Int.toNat p1) (Int.toNat p1)) ∧ Q1 (.val (.int .i64 ((Int.toNat p1 : Nat) : Int))) ∧ E2 (.val (.int .i64 w.t11)) (.val (.int .i64 x.t11)) ∧ True) ∧ (O2 ⟨65, .dyn w.o8⟩ ⟨65, .dyn x.o8⟩ ∧ True)
def waveportlaw07_repeated_sk (p0 : Sl) (p1 : Int) (V : View) (R : Value → View → Prop) (I0 : Unit → L_waveportlaw07_repeated_0 → View → Prop) (E0 : Unit → L_waveportlaw07_repeated_0 → View → Prop) (B0 : Unit → L_waveportlaw07_repeated_0 → View → L_waveportlaw07_repeated_0 → View → Prop) : Prop :=
    ((0 : Int) ≤ p1 ∧ (p1 : Int) ≤ p1 ∧ (24 : Int) * p1 ≤ 281474976710656 ∧ (p1 : Int) ≤ 9223372036854775807) ∧
    E0 () (L_waveportlaw07_repeated_0.mk 0 ((List.replicate (Int.toNat p1) [Value.int .i64 0, Value.int .i64 0, Value.int .i64 0]).flatten)) V ∧
    (∀ (x2 : L_waveportlaw07_repeated_0) (V1 : View), View.le V V1 → I0 () x2 V1 →
      ((decide ((x2.t11 : Int) < ((Int.toNat p1 : Nat) : Int))) = true →
        ((decide (((p0.len : Int) : Int) > 0)) = true →
        ((p0.len : Int) : Int) ≠ 0 ∧
        ((0 : Int) ≤ (Int.tmod x2.t11 (p0.len : Int)) ∧ ((Int.tmod x2.t11 (p0.len : Int)) : Int) < (p0.len : Nat) ∧ Option.isSome p0.a = true) ∧
        ∃ x3 : RatV, View.has V1 (Option.map (fun q => Addr.add q (Int.toNat (Int.tmod x2.t11 (p0.len : Int)) * 3)) p0.a) (x3.val).cells.toList ∧ Option.isSome (Option.map (fun q => Addr.add q (Int.toNat (Int.tmod x2.t11 (p0.len : Int)) * 3)) p0.a) = true ∧
        CallV Try.prog 56 #[x3.val] V1 fun v V2 => ∃ r1 : RatV, v = r1.val ∧ -- waveportlaw07.small
        ((0 : Int) ≤ x2.t11 ∧ (x2.t11 : Int) < (Int.toNat p1 : Nat)) ∧
        0 + Int.toNat x2.t11 * 3 + 3 ≤ List.length x2.o8 ∧
        B0 () (L_waveportlaw07_repeated_0.mk (IntKind.i64.wrap (x2.t11 + 1)) (setL x2.o8 (0 + Int.toNat x2.t11 * 3) [.int .i64 r1.re, .int .i64 r1.im, .int .i64 r1.den])) V2 x2 V1) ∧
      ((decide (((p0.len : Int) : Int) > 0)) = false →
        B0 () (L_waveportlaw07_repeated_0.mk (IntKind.i64.wrap (x2.t11 + 1)) x2.o8) V1 x2 V1)) ∧
      ((decide ((x2.t11 : Int) < ((Int.toNat p1 : Nat) : Int))) = false →
        ∀ (b1 : Nat) (V3 : View), View.le V1 V3 → V3 b1 = some (List.toArray x2.o8) →
    R ((Sl.mk (some (Addr.mk b1 0 none)) (Int.toNat p1) (Int.toNat p1)).v) V3))

theorem waveportlaw07_repeated_v0 (p0 : Sl) (p1 : Int) (V : View) (R : Value → View → Prop) (I0 : Unit → L_waveportlaw07_repeated_0 → View → Prop) (J0 : Unit → L_waveportlaw07_repeated_0 → View → Nat) {X : Prop} (e : waveportlaw07_repeated_sk p0 p1 V R I0 I0 (fun c w V x U => I0 c w V ∧ J0 c w V < J0 c x U) = X) (h : X) :
  CallV Try.prog 20 #[p0.v, .int .i64 p1] V R :=
  calls_of_vc (Shp := Shp) hmixed Try.func20 (c := Try.f20.body.getD .skip) (args := [p0.v, .int .i64 p1]) (by kernel_rfl)
    (.seq (.reg [⟨4, 2, false⟩]) (.seq (.reg [⟨7, 2, false⟩, ⟨8, 3, false⟩, ⟨5, 2, false⟩]) (.seq (.seq (.reg [⟨9, 2, false⟩, ⟨10, 7, false⟩, ⟨11, 2, false⟩]) (.block (.loop Unit L_waveportlaw07_repeated_0 (fun _ => ()) (fun c x => { tm := spT 30 0 [(0, .val (p0.v)), (5, .osl 8 0 (Int.toNat p1) (Int.toNat p1)), (10, .val (.int .i64 ((Int.toNat p1 : Nat) : Int))), (11, .val (.int .i64 x.t11))], own := spO 30 0 [(8, ⟨65, .dyn x.o8⟩)] }) I0 J0 (.seq (.reg [⟨12, 0, false⟩]) (.seq (.cond .leaf .leaf) (.seq (.block (.seq (.reg [⟨13, 2, false⟩, ⟨6, 2, false⟩]) (.seq (.reg [⟨14, 2, false⟩, ⟨15, 0, false⟩, ⟨16, 0, false⟩]) (.cond (.reg [⟨17, 2, false⟩, ⟨18, 2, false⟩, ⟨19, 2, false⟩, ⟨20, 2, false⟩, ⟨21, 2, false⟩, ⟨22, 0, false⟩, ⟨23, 12, false⟩, ⟨24, 7, false⟩, ⟨25, 5, false⟩, ⟨26, 10, false⟩, ⟨27, 7, false⟩, ⟨8, 6, false⟩]) .leaf)))) (.reg [⟨28, 0, false⟩, ⟨11, 2, false⟩]))))))) (.seq (.reg [⟨29, 2, false⟩, ⟨4, 2, false⟩]) (.pub 8 .leaf)))))
    (Eq.mpr (by kernel_rfl) (show waveportlaw07_repeated_sk p0 p1 V R I0 (fun c w V => ∃ x, waveportlaw07_repeated_f0 p0 p1 c w x ∧ I0 c x V) (fun c w V y U => ∃ x, waveportlaw07_repeated_f0 p0 p1 c w x ∧ I0 c x V ∧ J0 c x V < J0 c y U) from by
    have h := Eq.mpr e h; unfold waveportlaw07_repeated_sk at h ⊢; have Ee0 := fun c w V (h : I0 c w V) => (⟨w, ⟨⟨rfl, rfl, rfl, rfl, trivial⟩, ⟨rfl, trivial⟩⟩, h⟩ : ∃ x, waveportlaw07_repeated_f0 p0 p1 c w x ∧ I0 c x V); have Bb0 := fun c w V y U (h : I0 c w V ∧ J0 c w V < J0 c y U) => (⟨w, ⟨⟨rfl, rfl, rfl, rfl, trivial⟩, ⟨rfl, trivial⟩⟩, h⟩ : ∃ x, waveportlaw07_repeated_f0 p0 p1 c w x ∧ I0 c x V ∧ J0 c x V < J0 c y U); exact ⟨h.1, ⟨(Ee0 _ _ _ h.2.1), fun x2 V1 h10 h11 => ⟨fun h9 => ⟨fun h6 => ⟨(((h.2.2 x2 V1 h10 h11).1 h9).1 h6).1, ⟨(((h.2.2 x2 V1 h10 h11).1 h9).1 h6).2.1, (match (((h.2.2 x2 V1 h10 h11).1 h9).1 h6).2.2 with | ⟨x3, h4, h5, h3⟩ => ⟨x3, h4, h5, (CallV.mono h3 (fun _ _ _ ⟨r1, h2, h1⟩ => ⟨r1, h2, ⟨h1.1, ⟨h1.2.1, (Bb0 _ _ _ _ _ h1.2.2)⟩⟩⟩))⟩)⟩⟩, fun h6 => (Bb0 _ _ _ _ _ (((h.2.2 x2 V1 h10 h11).1 h9).2 h6))⟩, fun h9 => (fun b1 V3 h7 h8 => (((h.2.2 x2 V1 h10 h11).2 h9) b1 V3 h7 h8))⟩⟩⟩))

/-- waveport/waveportlaw07.repeated -/
theorem waveportlaw07_repeated_vc : type_of% (fun p0 p1 V R I0 J0 => waveportlaw07_repeated_v0 p0 p1 V R I0 J0 (waveportlaw07_repeated_sk.eq_1 ..)) := fun p0 p1 V R I0 J0 => waveportlaw07_repeated_v0 p0 p1 V R I0 J0 (waveportlaw07_repeated_sk.eq_1 ..)

/-- waveport/transform.of[waveport/num.Num] -/
theorem transform_of_num_Num__vc (p0 : Int) (p1 : Int) (V : View) (R : Value → View → Prop) 
  (h :
    CallV Try.prog 47 #[.int .i64 p0, .int .i64 0, .int .i64 p1] V fun v V1 => ∃ (r1 : NumV) (r2 : Int), v = .tuple #[r1.val, .int .i64 r2] ∧ -- num.New
    CallV Try.prog 120 #[(NumV.mk (WhV.mk false (Sl.mk none 0 0)) (WhV.mk false (Sl.mk none 0 0)) (Sl.mk none 0 0)).val, r1.val] V1 fun v V2 => ∃ r3 : NumV, v = r3.val ∧ -- (num.Num).Of
    R (r3.val) V2) :
  CallV Try.prog 59 #[.int .i64 p0, .int .i64 p1] V R :=
  calls_of_vc (Shp := Shp) hmixed Try.func59 (c := Try.f59.body.getD .skip) (args := [.int .i64 p0, .int .i64 p1]) (by kernel_rfl)
    (.seq (.reg [⟨4, 3, false⟩]) (.seq (.reg [⟨5, 3, false⟩]) (.seq (.reg [⟨9, 2, false⟩, ⟨10, 2, false⟩, ⟨11, 10, false⟩, ⟨8, 2, false⟩, ⟨12, 0, false⟩, ⟨13, 0, false⟩, ⟨6, 3, false⟩, ⟨6, 6, false⟩, ⟨7, 2, false⟩]) (.seq (.reg [⟨5, 4, false⟩, ⟨15, 0, false⟩, ⟨6, 4, false⟩, ⟨17, 10, false⟩, ⟨4, 6, false⟩]) .leaf))))
    (Eq.mpr (by kernel_rfl) h)

structure L_waveportlaw07_are_0 where
  u : Unit
structure L_waveportlaw07_are_1 where
  t25 : Int
def waveportlaw07_are_f0 (p0 : Sl) (p2 : Sl) (_c : Unit) (_w _x : L_waveportlaw07_are_0) : Prop := (Q1 (.val (p0.v)) ∧ Q1 (.val (p2.v)) ∧ True) ∧ (True)
def waveportlaw07_are_f1 (p0 : Sl) (p2 : Sl) (_c : Unit) (w x : L_waveportlaw07_are_1) : Prop := (Q1 (.val (p0.v)) ∧ Q1 (.val (p2.v)) ∧ Q1 (.val (.int .i64 (p0.len : Int))) ∧ E2 (.val (.int .i64 w.t25)) (.val (.int .i64 x.t25)) ∧ True) ∧ (True)
def waveportlaw07_are_sk (p0 : Sl) (p1 : Int) (p2 : Sl) (p3 : Int) (V : View) (R : Value → View → Prop) (I0 : Unit → L_waveportlaw07_are_0 → View → Prop) (I1 : Unit → L_waveportlaw07_are_1 → View → Prop) (E0 : Unit → L_waveportlaw07_are_0 → View → Prop) (E1 : Unit → L_waveportlaw07_are_1 → View → Prop) (B1 : Unit → L_waveportlaw07_are_1 → View → L_waveportlaw07_are_1 → View → Prop) : Prop :=
    ((((p1 : Int) != 0) = true →
      (true = true →
      (true = true →
        R (.bool false) V) ∧
      (true = false →
        E0 () (L_waveportlaw07_are_0.mk ()) V)) ∧
      (true = false →
      ((((p0.len : Int) : Int) != (p2.len : Int)) = true →
        R (.bool false) V) ∧
      ((((p0.len : Int) : Int) != (p2.len : Int)) = false →
        E0 () (L_waveportlaw07_are_0.mk ()) V))) ∧
      (((p1 : Int) != 0) = false →
      (((p3 : Int) != 0) = true →
      (true = true →
        R (.bool false) V) ∧
      (true = false →
        E0 () (L_waveportlaw07_are_0.mk ()) V)) ∧
      (((p3 : Int) != 0) = false →
      ((((p0.len : Int) : Int) != (p2.len : Int)) = true →
        R (.bool false) V) ∧
      ((((p0.len : Int) : Int) != (p2.len : Int)) = false →
        E0 () (L_waveportlaw07_are_0.mk ()) V)))) ∧
    (∀ (x1 : L_waveportlaw07_are_0) (V1 : View), View.le V V1 → I0 () x1 V1 →
      E1 () (L_waveportlaw07_are_1.mk 0) V1 ∧
      (∀ (x7 : L_waveportlaw07_are_1) (V2 : View), View.le V1 V2 → I1 () x7 V2 →
        ((decide ((x7.t25 : Int) < (p0.len : Int))) = true →
          ((0 : Int) ≤ x7.t25 ∧ (x7.t25 : Int) < (p0.len : Nat) ∧ Option.isSome p0.a = true) ∧
        ∃ x8 : NumV, View.has V2 (Option.map (fun q => Addr.add q (Int.toNat x7.t25 * 5)) p0.a) (x8.val).cells.toList ∧ Option.isSome (Option.map (fun q => Addr.add q (Int.toNat x7.t25 * 5)) p0.a) = true ∧
        ((0 : Int) ≤ x7.t25 ∧ (x7.t25 : Int) < (p2.len : Nat) ∧ Option.isSome p2.a = true) ∧
        ∃ x9 : NumV, View.has V2 (Option.map (fun q => Addr.add q (Int.toNat x7.t25 * 5)) p2.a) (x9.val).cells.toList ∧ Option.isSome (Option.map (fun q => Addr.add q (Int.toNat x7.t25 * 5)) p2.a) = true ∧
        CallV Try.prog 15 #[x8.val, x9.val] V2 fun v V3 => ∃ r1 : Bool, v = .bool r1 ∧ -- (num.Num).Same
        ((!r1) = true →
          R (.bool false) V3) ∧
        ((!r1) = false →
          B1 () (L_waveportlaw07_are_1.mk (IntKind.i64.wrap (x7.t25 + 1))) V3 x7 V2)) ∧
        ((decide ((x7.t25 : Int) < (p0.len : Int))) = false →
          R (.bool true) V2)))

theorem waveportlaw07_are_v0 (p0 : Sl) (p1 : Int) (p2 : Sl) (p3 : Int) (V : View) (R : Value → View → Prop) (I0 : Unit → L_waveportlaw07_are_0 → View → Prop) (I1 : Unit → L_waveportlaw07_are_1 → View → Prop) (J1 : Unit → L_waveportlaw07_are_1 → View → Nat) {X : Prop} (e : waveportlaw07_are_sk p0 p1 p2 p3 V R I0 I1 I0 I1 (fun c w V x U => I1 c w V ∧ J1 c w V < J1 c x U) = X) (h : X) :
  CallV Try.prog 23 #[p0.v, .int .i64 p1, p2.v, .int .i64 p3] V R :=
  calls_of_vc (Shp := Shp) hmixed Try.func23 (c := Try.f23.body.getD .skip) (args := [p0.v, .int .i64 p1, p2.v, .int .i64 p3]) (by kernel_rfl)
    (.seq (.reg [⟨8, 2, false⟩]) (.cut Unit L_waveportlaw07_are_0 (fun _ => ()) (fun c x => { tm := spT 39 0 [(0, .val (p0.v)), (2, .val (p2.v))], own := spO 39 0 [] }) I0 (.seq (.reg [⟨10, 2, false⟩, ⟨11, 0, false⟩, ⟨12, 2, true⟩, ⟨13, 2, false⟩, ⟨14, 0, false⟩, ⟨15, 2, false⟩, ⟨16, 2, true⟩, ⟨17, 2, false⟩, ⟨18, 0, false⟩, ⟨19, 2, false⟩, ⟨20, 0, false⟩, ⟨21, 0, false⟩, ⟨22, 2, false⟩]) (.cond (.seq (.reg [⟨8, 2, false⟩]) .leaf) .leaf)) (.seq (.seq (.reg [⟨23, 2, false⟩, ⟨24, 0, false⟩, ⟨25, 2, false⟩]) (.block (.loop Unit L_waveportlaw07_are_1 (fun _ => ()) (fun c x => { tm := spT 39 0 [(0, .val (p0.v)), (2, .val (p2.v)), (24, .val (.int .i64 (p0.len : Int))), (25, .val (.int .i64 x.t25))], own := spO 39 0 [] }) I1 J1 (.seq (.reg [⟨26, 0, false⟩]) (.seq (.cond .leaf .leaf) (.seq (.block (.seq (.reg [⟨27, 2, false⟩, ⟨9, 2, false⟩]) (.seq (.draw [(0, ⟨28, 2, false⟩), (1, ⟨29, 2, false⟩), (2, ⟨30, 7, false⟩), (3, ⟨31, 5, false⟩), (4, ⟨32, 2, false⟩), (5, ⟨33, 2, false⟩), (6, ⟨34, 7, false⟩), (7, ⟨35, 5, false⟩), (8, ⟨36, 10, false⟩), (9, ⟨37, 0, false⟩)] [0, 0, 3, 7, 0, 0, 48, 112, 255, 511]) (.cond (.seq (.reg [⟨8, 2, false⟩]) .leaf) .leaf)))) (.reg [⟨38, 0, false⟩, ⟨25, 2, false⟩]))))))) (.seq (.reg [⟨8, 2, false⟩]) .leaf))))
    (Eq.mpr (by kernel_rfl) (show waveportlaw07_are_sk p0 p1 p2 p3 V R I0 I1 (fun c w V => ∃ x, waveportlaw07_are_f0 p0 p2 c w x ∧ I0 c x V) (fun c w V => ∃ x, waveportlaw07_are_f1 p0 p2 c w x ∧ I1 c x V) (fun c w V y U => ∃ x, waveportlaw07_are_f1 p0 p2 c w x ∧ I1 c x V ∧ J1 c x V < J1 c y U) from by
    have h := Eq.mpr e h; unfold waveportlaw07_are_sk at h ⊢; have Ee0 := fun c w V (h : I0 c w V) => (⟨w, ⟨⟨rfl, rfl, trivial⟩, trivial⟩, h⟩ : ∃ x, waveportlaw07_are_f0 p0 p2 c w x ∧ I0 c x V); have Ee1 := fun c w V (h : I1 c w V) => (⟨w, ⟨⟨rfl, rfl, rfl, rfl, trivial⟩, trivial⟩, h⟩ : ∃ x, waveportlaw07_are_f1 p0 p2 c w x ∧ I1 c x V); have Bb1 := fun c w V y U (h : I1 c w V ∧ J1 c w V < J1 c y U) => (⟨w, ⟨⟨rfl, rfl, rfl, rfl, trivial⟩, trivial⟩, h⟩ : ∃ x, waveportlaw07_are_f1 p0 p2 c w x ∧ I1 c x V ∧ J1 c x V < J1 c y U); exact ⟨⟨fun h7 => ⟨fun h3 => ⟨fun h1 => (((h.1.1 h7).1 h3).1 h1), fun h1 => (Ee0 _ _ _ (((h.1.1 h7).1 h3).2 h1))⟩, fun h3 => ⟨fun h2 => (((h.1.1 h7).2 h3).1 h2), fun h2 => (Ee0 _ _ _ (((h.1.1 h7).2 h3).2 h2))⟩⟩, fun h7 => ⟨fun h6 => ⟨fun h4 => (((h.1.2 h7).1 h6).1 h4), fun h4 => (Ee0 _ _ _ (((h.1.2 h7).1 h6).2 h4))⟩, fun h6 => ⟨fun h5 => (((h.1.2 h7).2 h6).1 h5), fun h5 => (Ee0 _ _ _ (((h.1.2 h7).2 h6).2 h5))⟩⟩⟩, fun x1 V1 h20 h21 => ⟨(Ee1 _ _ _ (h.2 x1 V1 h20 h21).1), fun x7 V2 h18 h19 => ⟨fun h17 => ⟨(((h.2 x1 V1 h20 h21).2 x7 V2 h18 h19).1 h17).1, (match (((h.2 x1 V1 h20 h21).2 x7 V2 h18 h19).1 h17).2 with | ⟨x8, h15, h16, h14⟩ => ⟨x8, h15, h16, ⟨h14.1, (match h14.2 with | ⟨x9, h12, h13, h11⟩ => ⟨x9, h12, h13, (CallV.mono h11 (fun _ _ _ ⟨r1, h10, h9⟩ => ⟨r1, h10, ⟨fun h8 => (h9.1 h8), fun h8 => (Bb1 _ _ _ _ _ (h9.2 h8))⟩⟩))⟩)⟩⟩)⟩, fun h17 => (((h.2 x1 V1 h20 h21).2 x7 V2 h18 h19).2 h17)⟩⟩⟩))

/-- waveport/waveportlaw07.are -/
theorem waveportlaw07_are_vc : type_of% (fun p0 p1 p2 p3 V R I0 I1 J1 => waveportlaw07_are_v0 p0 p1 p2 p3 V R I0 I1 J1 (waveportlaw07_are_sk.eq_1 ..)) := fun p0 p1 p2 p3 V R I0 I1 J1 => waveportlaw07_are_v0 p0 p1 p2 p3 V R I0 I1 J1 (waveportlaw07_are_sk.eq_1 ..)

end Go.Proofs.Ytnbjnokgmeamdaa
